/- Proved: FrameBack as a plain statement: for every frame and every string, true. -/
import Derived.Test.YtnikfjfcbpeieaaQf
import Derived.Test.YtnikfjfcbpeieaaPFrx2
namespace Go.Proofs.Ytnikfjfcbpeieaa.Pure
open Go.RowKit Go.Proofs.Ytnikfjfcbpeieaa.PBa Go.Proofs.Ytnikfjfcbpeieaa.EFrame Go.Proofs.Ytnikfjfcbpeieaa.EMac Go.Proofs.Ytnikfjfcbpeieaa.QF Go.Proofs.Ytnikfjfcbpeieaa.PFr Go.Proofs.YtnikfjfcbpeieaaW.PrintWords Go.Proofs.YtnikfjfcbpeieaaW.PrintLast Go.Proofs.YtnikfjfcbpeieaaW.PrintMore
set_option linter.unusedVariables false
set_option linter.unusedSimpArgs false

theorem alive_eq : footwaylaw02_alive.f = some true := by decide +kernel

theorem Print_yes {d c t : Int} {n : ByteArray} (k : Nat) (h : frame_Right.f d c t n = some true) : frame_Print.f (k + 5) d c t n = some (strOfNums (P d c t n), 0) := by
  obtain ⟨hc, hd, ht, hn⟩ := (right_iff _ _ _ _).1 h
  have hc' := class_right hc
  unfold frame_Print.f
  rw [h]
  simp only [Option.bind_some, if_true]
  unfold mac_Bytes.f
  rw [if_pos hd, if_pos hc']
  simp only [Option.bind_some]
  have s0 : (strOfNums (b6 d)).size = 6 := by rw [str_size]; rfl
  have s1 : (strOfNums (b6 c)).size = 6 := by rw [str_size]; rfl
  have s2 : (strOfNums [t / 256 % 256, t % 256]).size = 2 := by rw [str_size]; rfl
  rw [joined_eq k _ _ _ _ (by omega) (by omega) (by omega) (by omega)]
  rw [bytes_of_str _ (b6_ok hd.1 hd.2), bytes_of_str _ (b6_ok hc'.1 hc'.2), bytes_of_str [t / 256 % 256, t % 256] (by intro x hx; simp at hx; omega)]
  rfl

theorem Print_no {d c t : Int} {n : ByteArray} (k : Nat) (h : frame_Right.f d c t n = some false) : frame_Print.f k d c t n = some (⟨#[]⟩, 1) := by
  unfold frame_Print.f
  rw [h]
  rfl

theorem j1_true (k : Nat) (s : ByteArray) : footwaylaw02_FrameBack.j1 (k + 6) s = some true := by
  rw [footwaylaw02_FrameBack.j1]
  rcases Parse_cases s with ⟨d, c, t, n, hp, hr, hs, _⟩ | ⟨e, he, hp⟩
  · rw [hp]
    simp only [Option.bind_some, if_true]
    rw [Print_yes k hr, ((right_iff _ _ _ _).1 hr).1, hr, hs]
    simp
  · rw [hp]
    simp [he]

theorem FrameBack (d c t : Int) (n0 raw : ByteArray) : footwaylaw02_FrameBack.f 2000 d c t n0 raw = some true := by
  unfold footwaylaw02_FrameBack.f
  rw [few_eq]
  simp only [Option.bind_some]
  generalize n0.extract 0 (min n0.size 130) = n
  have e : mn (raw.size : Int) 150 = ((min raw.size 150 : Nat) : Int) := by unfold mn; split <;> omega
  rw [e, if_pos (by omega), if_pos (by omega)]
  generalize raw.extract 0 (((min raw.size 150 : Nat) : Int)).toNat = s
  obtain ⟨r, hr⟩ := right_total d c t n
  cases r
  · rw [Print_no 2000 hr, hr]
    simp only [Option.bind_some]
    rw [if_neg (by decide), alive_eq]
    simp only [Option.bind_some]
    rw [show (2000 : Nat) = 1999 + 1 from rfl, footwaylaw02_FrameBack.j0]
    rw [if_neg (by decide), if_neg (by decide)]
    exact j1_true 1993 s
  · rw [show (2000 : Nat) = 1995 + 5 from rfl, Print_yes 1995 hr, hr]
    simp only [Option.bind_some]
    rw [if_neg (by decide), alive_eq]
    simp only [Option.bind_some]
    rw [show (1995 + 5 : Nat) = 1999 + 1 from rfl, footwaylaw02_FrameBack.j0]
    rw [if_neg (by decide), if_pos rfl, Parse_P hr]
    simp only [Option.bind_some, if_true]
    rw [if_neg (by simp)]
    have hn := ((right_iff _ _ _ _).1 hr).2.2.2
    rw [if_pos (by rw [str_size, P_len]; unfold wrap64; omega)]
    exact j1_true 1993 s
end Go.Proofs.Ytnikfjfcbpeieaa.Pure
