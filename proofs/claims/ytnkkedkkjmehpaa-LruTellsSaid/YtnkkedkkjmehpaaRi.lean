import Derived.Test.YtnkkedkkjmehpaaProg
import Derived.Test.YtnkkedkkjmehpaaWMore
import Derived.Maps.Own
import Derived.Maps.OwnOps
import Derived.Maps.OwnSet
import Derived.Maps.Views
import Derived.WalkKit
import Derived.Outline
namespace Go.Proofs.Ytnkkedkkjmehpaa.ELru
open Go.RowKit Go.Maps Go.Proofs.YtnkkedkkjmehpaaW.PrintWords Go.Proofs.YtnkkedkkjmehpaaW.PrintLast Go.Proofs.YtnkkedkkjmehpaaW.PrintMore
set_option linter.unusedVariables false
set_option linter.unusedSimpArgs false

theorem law3 : Keyed Try.prog 3 := int_keyed Try.underlying3
theorem zero3 (w : World) : (zeroValue 3).run Try.prog w = .ok (.int .i64 0) w := by kernel_rfl

/-- Each number of xs stands at 1, all others at 0. -/
def Tells (D : DataW Unit) (xs : List Int) : Prop := ∀ x : Int, (Lit.int .i64 x).wf = true → D.atKey (.int .i64 x) (.lit (.int .i64 0)) = .lit (.int .i64 (if x ∈ xs then 1 else 0))

theorem tells_nil : Tells (.map []) [] := fun x _ => by simp [DataW.atKey]
theorem lit_inj {a b : Int} (h : (DataW.lit (H := Unit) (.int .i64 a)) = .lit (.int .i64 b)) : a = b := by
  injection h with h; injection h

def in64B (x : Int) : Bool := decide (-9223372036854775808 ≤ x) && decide (x ≤ 9223372036854775807)
theorem wf_of_in64 {x : Int} (h : in64B x = true) : (Lit.int .i64 x).wf = true := by
  simp only [in64B, Bool.and_eq_true, decide_eq_true_eq] at h
  exact WalkArith.wf_i64 (by omega)

def rightB (l : List Int) : Bool := l.all (fun x => decide (0 ≤ x)) && decide l.Nodup && decide (l.length ≤ 64)

theorem rightB_neg {l : List Int} {x : Int} (h : x ∈ l) (hx : x < 0) : rightB l = false := by
  unfold rightB
  have : l.all (fun x => decide (0 ≤ x)) = false := by
    rw [List.all_eq_false]
    exact ⟨x, h, by simpa using hx⟩
  rw [this]; rfl
theorem rightB_dup {l : List Int} {k : Nat} {x : Int} (h : l.take (k + 1) = l.take k ++ [x]) (hx : x ∈ l.take k) : rightB l = false := by
  unfold rightB
  have : ¬ l.Nodup := fun hn => by
    have h1 : (l.take (k + 1)).Nodup := hn.sublist (List.take_sublist _ _)
    rw [h, List.nodup_append] at h1
    exact h1.2.2 x hx x (by simp) rfl
  simp [this]
theorem rightB_yes {l : List Int} (hp : ∀ x ∈ l, 0 ≤ x) (hn : l.Nodup) : rightB l = decide (l.length ≤ 64) := by
  unfold rightB
  have : l.all (fun x => decide (0 ≤ x)) = true := by rw [List.all_eq_true]; intro x hx; simpa using hp x hx
  simp [this, hn]
theorem tells_snoc {D : DataW Unit} (hD : IsMap D) {xs : List Int} {x c : Int} (h : Tells D xs) (hw : (Lit.int .i64 x).wf = true) (hc : D.atKey (.int .i64 x) (.lit (.int .i64 0)) = .lit (.int .i64 c)) (hx : x ∉ xs) :
    Tells (D.put (.int .i64 x) (.lit (.int .i64 (wrap64 (c + 1))))) (xs ++ [x]) := by
  intro y hy
  have hc0 := h x hw
  rw [hc, if_neg hx] at hc0
  have hc1 := lit_inj hc0
  subst hc1
  by_cases e : y = x
  · subst e
    rw [atKey_put_same hD (by first | trivial | decide | simp [WideAt.IsKeyLit])]
    simp [wrap64]
  · rw [atKey_put_other (by simpa using e), h y hy]
    simp [e]

theorem dup_of {D : DataW Unit} (hD : IsMap D) {xs : List Int} {x c c2 : Int} (h : Tells D xs) (hw : (Lit.int .i64 x).wf = true) (hc : D.atKey (.int .i64 x) (.lit (.int .i64 0)) = .lit (.int .i64 c))
    (hc2 : (D.put (.int .i64 x) (.lit (.int .i64 (wrap64 (c + 1))))).atKey (.int .i64 x) (.lit (.int .i64 0)) = .lit (.int .i64 c2)) (hgt : 1 < c2) : x ∈ xs := by
  rw [atKey_put_same hD (by simp [WideAt.IsKeyLit])] at hc2
  have e2 := lit_inj hc2
  have hc0 := h x hw
  rw [hc] at hc0
  have e1 := lit_inj hc0
  by_cases hx : x ∈ xs
  · exact hx
  · rw [if_neg hx] at e1
    subst e1
    simp [wrap64] at e2
    omega
theorem new_of {D : DataW Unit} (hD : IsMap D) {xs : List Int} {x c c2 : Int} (h : Tells D xs) (hw : (Lit.int .i64 x).wf = true) (hc : D.atKey (.int .i64 x) (.lit (.int .i64 0)) = .lit (.int .i64 c))
    (hc2 : (D.put (.int .i64 x) (.lit (.int .i64 (wrap64 (c + 1))))).atKey (.int .i64 x) (.lit (.int .i64 0)) = .lit (.int .i64 c2)) (hle : ¬ 1 < c2) : x ∉ xs := by
  rw [atKey_put_same hD (by simp [WideAt.IsKeyLit])] at hc2
  have e2 := lit_inj hc2
  have hc0 := h x hw
  rw [hc] at hc0
  have e1 := lit_inj hc0
  intro hx
  rw [if_pos hx] at e1
  subst e1
  simp [wrap64] at e2
  omega

set_option maxHeartbeats 1000000 in
set_option maxRecDepth 100000 in
theorem right_any (A0 : Option Addr) (c0 : Nat) (l0 : List Int) (w : World) (hr0 : Kd.C (Kd.int .i64) w A0 l0.length l0) (_hc0 : l0.length ≤ c0) (hl : l0.length ≤ 1000) (hw : ∀ x ∈ l0, in64B x = true) :
    Calls Try.prog 13 #[.slice A0 l0.length c0] w fun e w' => e = .returned (.bool (rightB l0)) ∧ Below w.heap.size w w' := by
  have hmm := @run_makeMap Try.prog
  have HR := Aside0.mk hr0
  have HW := Aside0.mk hw
  clear hr0 hw
  go_enter Try.func13, Try.ntmps13
  go_wp2
  go_loopw [9] (fun i wr => ∃ (k : Nat) (D : DataW Unit), k ≤ l0.length ∧ i = .int .i64 k ∧ Aside0 (wr.ownsMap Try.prog 3 (plainElem Try.prog 3) w.heap.size k D) ∧ Aside0 (Below w.heap.size w wr) ∧ Aside0 (Tells D (l0.take k)) ∧ Aside0 (∀ x ∈ l0.take k, 0 ≤ x) ∧ Aside0 (l0.take k).Nodup)
    (fun i _ => l0.length - (intOf i).toNat)
  case atStart => exact ⟨0, _, Nat.zero_le _, rfl, ⟨World.ownsMap_made _ _ _ _⟩, ⟨(Below.refl _ _).alloc (Nat.le_refl _) _⟩, ⟨tells_nil⟩, ⟨by simp⟩, ⟨by simp⟩⟩
  case round =>
    obtain ⟨k, D, hk, rfl, HO, HB, HT, HP, HN⟩ := hrel
    by_cases hlt : k < l0.length
    · obtain ⟨ad, e, hx⟩ := Kd.at_int (Kd.C_below HR.out HB.out) (k : Int) (by omega) (by omega)
      subst e
      have hrd : rd l0 (k : Int) = l0[k] := by simp [rd, hlt]
      have hm : l0[k] ∈ l0 := List.getElem_mem hlt
      have hts : l0.take (k + 1) = l0.take k ++ [l0[k]] := by rw [List.take_succ_eq_append_getElem hlt]
      rw [hrd, Int.toNat_natCast] at hx
      have HX := Aside0.mk hts
      have HM := Aside0.mk hm
      clear hrd hm hts
      obtain ⟨x, hxe⟩ : ∃ x, x = l0[k] := ⟨_, rfl⟩
      rw [← hxe] at hx HX HM
      have HE := Aside0.mk hxe
      clear hxe
      have hwf := wf_of_in64 (HW.out x HM.out)
      have hkey : keyOf Try.prog 3 (.int .i64 x) = some (.int .i64 x) := keyOf_int_mk Try.underlying3 hwf
      have hown := HO.out
      have hltb : decide ((k : Int) < (l0.length : Int)) = true := by simpa using hlt
      by_cases hneg : x < 0
      · have hnb : decide (x < 0) = true := decide_eq_true hneg
        go_wp2_with (first
          | (at_lookup; refine wpList_lookup_own_int _ rfl _ _ 73 rfl 3 3 .i64 law3 Try.underlying73 Try.underlying3 (zero3 _) w.heap.size k _ rfl hown _ _ rfl hkey ?_; intro c hat hwc)
          | (at_mapUpdate; refine wpList_mapUpdate_own _ rfl _ _ _ 73 rfl 3 3 law3 Try.underlying73 _ w.heap.size k _ rfl hown (by unfold maxLen; omega) _ _ _ rfl rfl hkey _ [] (plainElem_int Try.underlying3 (wrap64_wf _)) ?_; intro w1 hown1 hgrow1; clear hown hat))
        go_ret
        exact ⟨by rw [rightB_neg HM.out hneg]; rfl, HB.out.grown hgrow1 HB.out.size (fun j hj => by cases hj; exact Nat.le_refl _)⟩
      · have hnb : decide (x < 0) = false := decide_eq_false hneg
        go_wp2_with (first
          | (at_lookup; refine wpList_lookup_own_int _ rfl _ _ 73 rfl 3 3 .i64 law3 Try.underlying73 Try.underlying3 (zero3 _) w.heap.size k _ rfl hown _ _ rfl hkey ?_; intro c hat hwc)
          | (at_mapUpdate; refine wpList_mapUpdate_own _ rfl _ _ _ 73 rfl 3 3 law3 Try.underlying73 _ w.heap.size k _ rfl hown (by unfold maxLen; omega) _ _ _ rfl rfl hkey _ [] (plainElem_int Try.underlying3 (wrap64_wf _)) ?_; intro w1 hown1 hgrow1; clear hown; obtain ⟨c2, hrun2, hat2, hwc2⟩ := hown1.lookup_int law3 Try.underlying73 Try.underlying3 (zero3 _) hkey))
        · go_ret
          have hgt : 1 < c2 := by assumption
          refine ⟨?_, HB.out.grown hgrow1 HB.out.size (fun j hj => by cases hj; exact Nat.le_refl _)⟩
          rw [rightB_dup HX.out (dup_of (HO.out.tidy law3).isMap HT.out hwf hat hat2 hgt)]
          rfl
        · go_roundw
          case rel =>
            have hle : ¬ 1 < c2 := by first | assumption | exact Int.not_lt.2 (by assumption)
            have hx' := new_of (HO.out.tidy law3).isMap HT.out hwf hat hat2 hle
            exact ⟨k + 1, _, hlt, by go_num, ⟨hown1⟩, ⟨HB.out.grown hgrow1 HB.out.size (fun j hj => by cases hj; exact Nat.le_refl _)⟩, ⟨HX.out ▸ tells_snoc (HO.out.tidy law3).isMap HT.out hwf hat hx'⟩,
              ⟨HX.out ▸ fun y hy => by rcases List.mem_append.1 hy with h | h; exact HP.out y h; rw [List.mem_singleton.1 h]; omega⟩,
              ⟨HX.out ▸ List.nodup_append.2 ⟨HN.out, by simp, fun a ha b hb => by rw [List.mem_singleton.1 hb]; rintro rfl; exact hx' ha⟩⟩⟩
          case measure => simp [intOf]; omega
    · have : k = l0.length := by omega
      subst this
      go_wp2
      go_ret
      refine ⟨?_, HB.out⟩
      have h1 := HP.out
      have h2 := HN.out
      rw [List.take_length] at h1 h2
      rw [rightB_yes h1 h2, show decide (l0.length ≤ 64) = decide ((l0.length : Int) ≤ 64) from decide_eq_decide.2 (by omega)]
      rfl
end Go.Proofs.Ytnkkedkkjmehpaa.ELru
