/- Proved: FrameTells as a plain statement: for every frame and every string, true. -/
import Derived.Test.YtnikfjfcbpeieaaQg
import Derived.Test.YtnikfjfcbpeieaaPureFrameBack
import Derived.Test.YtnikfjfcbpeieaaPFtx3
namespace Go.Proofs.Ytnikfjfcbpeieaa.PureT
open Go.RowKit Go.Proofs.Ytnikfjfcbpeieaa.PBa Go.Proofs.Ytnikfjfcbpeieaa.EFrame Go.Proofs.Ytnikfjfcbpeieaa.EMac Go.Proofs.Ytnikfjfcbpeieaa.QF Go.Proofs.Ytnikfjfcbpeieaa.PFr Go.Proofs.Ytnikfjfcbpeieaa.PBb Go.Proofs.Ytnikfjfcbpeieaa.PFt Go.Proofs.Ytnikfjfcbpeieaa.Pure Go.Proofs.YtnikfjfcbpeieaaW.PrintWords Go.Proofs.YtnikfjfcbpeieaaW.PrintLast Go.Proofs.YtnikfjfcbpeieaaW.PrintMore
set_option linter.unusedVariables false
set_option linter.unusedSimpArgs false

theorem rPrint_yes {d c t : Int} {n : ByteArray} (k : Nat) (h : frame_Right.f d c t n = some true) : footwayref02_Print.f (k + 7) d c t n = some (strOfNums (P d c t n)) := by
  obtain ⟨hk, hd, ht, hn⟩ := (right_iff _ _ _ _).1 h
  have hc := class_right hk
  have o1 := b6_ok hd.1 hd.2
  have o2 := b6_ok hc.1 hc.2
  have z1 : (strOfNums (b6 d)).size = 6 := by rw [str_size]; rfl
  have z2 : (strOfNums (b6 c)).size = 6 := by rw [str_size]; rfl
  unfold footwayref02_Print.f
  rw [rBytes_eq k hd.1 hd.2, rBytes_eq k hc.1 hc.2]
  simp only [Option.bind_some]
  have et : [wrap64 (Int.tdiv t 256) % 256, Int.tmod t 256 % 256] = [t / 256 % 256, t % 256] := by
    rw [Int.tdiv_eq_ediv_of_nonneg ht.1, Int.tmod_eq_emod_of_nonneg ht.1]
    rw [show wrap64 (t / 256) = t / 256 from by unfold wrap64; omega, show t % 256 % 256 = t % 256 from by omega]
  rw [et]
  have o3 : ∀ x ∈ [t / 256 % 256, t % 256], 0 ≤ x ∧ x ≤ 255 := by intro x hx; simp at hx; omega
  have z3 : (strOfNums [t / 256 % 256, t % 256]).size = 2 := by rw [str_size]; rfl
  rw [if_pos (by omega), if_pos (by rw [ByteArray.size_append]; omega), if_pos (by rw [ByteArray.size_append, ByteArray.size_append]; omega)]
  congr 1
  apply bytes_inj
  rw [bytes_append, bytes_append, bytes_append, bytes_of_str _ o1, bytes_of_str _ o2, bytes_of_str _ o3, bytes_of_str _ (P_ok hd hc)]
  unfold P
  simp only [List.append_assoc]

theorem j1_yes {d c t : Int} {n : ByteArray} (k : Nat) (h : frame_Right.f d c t n = some true) : footwaylaw02_FrameTells.j1 (k + 8) (strOfNums (P d c t n)) 0 ((strOfNums (P d c t n)).size : Int) 0 false d c t n = some true := by
  rw [footwaylaw02_FrameTells.j1, if_neg (by decide), fRight_ref, h]
  simp only [Option.bind_some, if_true]
  rw [rPrint_yes k h]
  simp

theorem j1_no {d c t : Int} {n : ByteArray} (k : Nat) (h : frame_Right.f d c t n = some false) : footwaylaw02_FrameTells.j1 (k + 8) ⟨#[]⟩ 1 0 1 false d c t n = some true := by
  rw [footwaylaw02_FrameTells.j1, if_neg (by decide), fRight_ref, h]
  simp only [Option.bind_some]
  rw [if_neg (by decide)]
  have e0 : (⟨#[]⟩ : ByteArray).toList = [] := by simp
  simp [e0]

theorem FrameTells (d c t : Int) (n0 raw : ByteArray) : footwaylaw02_FrameTells.f 2000 d c t n0 raw = some true := by
  unfold footwaylaw02_FrameTells.f
  rw [few_eq]
  simp only [Option.bind_some]
  generalize n0.extract 0 (min n0.size 130) = n
  have e : mn (raw.size : Int) 150 = ((min raw.size 150 : Nat) : Int) := by unfold mn; split <;> omega
  rw [e, if_pos (by omega), if_pos (by omega)]
  generalize raw.extract 0 (((min raw.size 150 : Nat) : Int)).toNat = s
  have hP : footwayref02_Parse.f 2000 s = frame_Parse.f s := rParse_eq 1993 s
  have hR := fRight_ref d c t n
  rw [hP, hR]
  obtain ⟨r, hr⟩ := right_total d c t n
  cases r
  · have hp := Print_no 2000 hr
    have hz : frame_Size.f 2000 d c t n = some (0, 1) := by
      unfold frame_Size.f
      rw [hp]
      rfl
    rw [hp, hz]
    simp only [Option.bind_some]
    rcases Parse_cases s with ⟨d', c', t', n', hps, hr', _⟩ | ⟨er, he, hps⟩
    · obtain ⟨hk, hd, ht, hn⟩ := (right_iff _ _ _ _).1 hr'
      have hK : frame_Kind.f s = some (cls d', 0) := by
        unfold frame_Kind.f
        rw [hps]
        simp only [Option.bind_some, if_true]
        rw [Class_yes hd.1 hd.2]
        rfl
      rw [hps, hK, hr]
      simp only [Option.bind_some]
      rw [if_neg (by simp), if_neg (by simp), if_pos trivial, if_pos trivial, Pure.alive_eq]
      simp only [Option.bind_some]
      rw [show (2000 : Nat) = 1999 + 1 from rfl, footwaylaw02_FrameTells.j0, if_neg (by decide), if_pos rfl, rClass_eq hd.1 hd.2]
      simp only [Option.bind_some, bne_self_eq_false]
      exact j1_no 1991 hr
    · have hK : frame_Kind.f s = some (0, er) := by
        unfold frame_Kind.f
        rw [hps]
        simp only [Option.bind_some]
        rw [if_neg he]
      rw [hps, hK, hr]
      simp only [Option.bind_some]
      rw [if_neg (by simp), if_neg (by simp), if_pos trivial, if_pos trivial, Pure.alive_eq]
      simp only [Option.bind_some]
      rw [show (2000 : Nat) = 1999 + 1 from rfl, footwaylaw02_FrameTells.j0, if_neg (by decide), if_neg he, if_pos rfl]
      exact j1_no 1991 hr
  · have hp := Print_yes 1995 hr
    have hz : frame_Size.f 2000 d c t n = some (((strOfNums (P d c t n)).size : Int), 0) := by
      unfold frame_Size.f
      rw [hp]
      rfl
    rw [hp, hz]
    simp only [Option.bind_some]
    rcases Parse_cases s with ⟨d', c', t', n', hps, hr', _⟩ | ⟨er, he, hps⟩
    · obtain ⟨hk, hd, ht, hn⟩ := (right_iff _ _ _ _).1 hr'
      have hK : frame_Kind.f s = some (cls d', 0) := by
        unfold frame_Kind.f
        rw [hps]
        simp only [Option.bind_some, if_true]
        rw [Class_yes hd.1 hd.2]
        rfl
      rw [hps, hK, hr]
      simp only [Option.bind_some]
      rw [if_neg (by simp), if_neg (by simp), if_pos trivial, if_pos trivial, Pure.alive_eq]
      simp only [Option.bind_some]
      rw [show (2000 : Nat) = 1999 + 1 from rfl, footwaylaw02_FrameTells.j0, if_neg (by decide), if_pos rfl, rClass_eq hd.1 hd.2]
      simp only [Option.bind_some, bne_self_eq_false]
      exact j1_yes 1991 hr
    · have hK : frame_Kind.f s = some (0, er) := by
        unfold frame_Kind.f
        rw [hps]
        simp only [Option.bind_some]
        rw [if_neg he]
      rw [hps, hK, hr]
      simp only [Option.bind_some]
      rw [if_neg (by simp), if_neg (by simp), if_pos trivial, if_pos trivial, Pure.alive_eq]
      simp only [Option.bind_some]
      rw [show (2000 : Nat) = 1999 + 1 from rfl, footwaylaw02_FrameTells.j0, if_neg (by decide), if_neg he, if_pos rfl]
      exact j1_yes 1991 hr
end Go.Proofs.Ytnikfjfcbpeieaa.PureT
