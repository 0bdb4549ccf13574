/- The contract of relay.Egress (by hand). -/
import Derived.Test.YtnkkedkkjmehpaaERel
import Derived.Test.YtnkkedkkjmehpaaDel
import Derived.Test.YtnkkedkkjmehpaaWo
namespace Go.Proofs.Ytnkkedkkjmehpaa.ERel
open Go.RowKit Go.Shelf Go.Proofs.Ytnkkedkkjmehpaa.PRe Go.Proofs.Ytnkkedkkjmehpaa.PRb Go.Proofs.YtnkkedkkjmehpaaW.PrintWords Go.Proofs.YtnkkedkkjmehpaaW.PrintLast Go.Proofs.YtnkkedkkjmehpaaW.PrintMore
set_option linter.unusedVariables false
set_option linter.unusedSimpArgs false

/-- The closure 'p != out'. -/
theorem not_out (B : Nat) (a : Int) : GivesAt Try.prog 54 B a (fun x => x != a) := by
  intro W x hc
  unfold FnGives
  go_enter Try.func54, Try.ntmps54
  go_wp2
  go_ret
  exact ⟨rfl, 0, rfl⟩

/-- Is what is asked refused? -/
def badE (cl out : Int) : Bool := decide (cl < 0) || (decide (2 < cl) || (decide (out < -1) || decide (8 ≤ out)))

theorem egress_why (A0 : Option Addr) (c0 : Nat) (l0 : List S60) (a1 cl out : Int) (w : World) (hC : Kd.C k60 w A0 l0.length l0) (hl : l0.length ≤ 1000) (hno : whyN l0 a1 ≠ 0) :
    Calls Try.prog 34 #[.slice A0 l0.length c0, .int .i64 a1, .int .i64 cl, .int .i64 out] w fun e w' => e = .returned (.tuple #[.slice none 0 0, .int .i64 (whyN l0 a1)]) ∧ Below w.heap.size w w' := by
  have HM := flood_no A0 c0 l0 a1 (w.alloc (.cells #[.int .i64 out] 3)) (Kd.C_below hC (below_alloc (Below.refl _ _) _)) hl hno
  have e0 : (whyN l0 a1 == 0) = false := beq_eq_false_iff_ne.2 hno
  have e1 : (whyN l0 a1 != 0) = true := bne_iff_ne.2 hno
  go_enter Try.func34, Try.ntmps34
  go_wp2_with (go_at_call 33; refine HM.mono ?_; rintro e w1 ⟨rfl, hb⟩)
  go_ret2
  exact ⟨rfl, ((Below.refl _ w).alloc (Nat.le_refl _) _).trans (hb.mono (by simp))⟩

set_option maxHeartbeats 1000000 in
theorem egress_bad (A0 : Option Addr) (c0 : Nat) (l0 : List S60) (a1 cl out : Int) (w : World) (hC : Kd.C k60 w A0 l0.length l0) (hc : l0.length ≤ c0) (hl : l0.length ≤ 1000) (hy : whyN l0 a1 = 0) (hb : badE cl out = true) :
    Calls Try.prog 34 #[.slice A0 l0.length c0, .int .i64 a1, .int .i64 cl, .int .i64 out] w fun e w' => e = .returned (.tuple #[.slice none 0 0, .int .i64 1]) ∧ Below w.heap.size w w' := by
  have HM := flood_yes A0 c0 l0 a1 (w.alloc (.cells #[.int .i64 out] 3)) (Kd.C_below hC (below_alloc (Below.refl _ _) _)) hc hl hy
  by_cases h0 : cl < 0
  · have d0 := decide_eq_true h0
    go_enter Try.func34, Try.ntmps34
    go_wp2_with (go_at_call 33; refine HM.mono ?_; rintro e w1 ⟨v, rfl, hown, hb⟩; have hcb : w1.cell? ⟨w.heap.size, 0, none⟩ = some (.int .i64 out) := (hb.cell (p := ⟨w.heap.size, 0, none⟩) (by simp)).trans (by simp))
    go_ret2
    exact ⟨rfl, ((Below.refl _ w).alloc (Nat.le_refl _) _).trans (hb.mono (by simp))⟩
  · have d0 := decide_eq_false h0
    by_cases h1 : 2 < cl
    · have d1 := decide_eq_true h1
      go_enter Try.func34, Try.ntmps34
      go_wp2_with (go_at_call 33; refine HM.mono ?_; rintro e w1 ⟨v, rfl, hown, hb⟩; have hcb : w1.cell? ⟨w.heap.size, 0, none⟩ = some (.int .i64 out) := (hb.cell (p := ⟨w.heap.size, 0, none⟩) (by simp)).trans (by simp))
      go_ret2
      exact ⟨rfl, ((Below.refl _ w).alloc (Nat.le_refl _) _).trans (hb.mono (by simp))⟩
    · have d1 := decide_eq_false h1
      by_cases h2 : out < -1
      · have d2 := decide_eq_true h2
        go_enter Try.func34, Try.ntmps34
        go_wp2_with (go_at_call 33; refine HM.mono ?_; rintro e w1 ⟨v, rfl, hown, hb⟩; have hcb : w1.cell? ⟨w.heap.size, 0, none⟩ = some (.int .i64 out) := (hb.cell (p := ⟨w.heap.size, 0, none⟩) (by simp)).trans (by simp))
        go_ret2
        exact ⟨rfl, ((Below.refl _ w).alloc (Nat.le_refl _) _).trans (hb.mono (by simp))⟩
      · have d2 := decide_eq_false h2
        have h3 : 8 ≤ out := by simp [badE] at hb; omega
        have d3 := decide_eq_true h3
        go_enter Try.func34, Try.ntmps34
        go_wp2_with (go_at_call 33; refine HM.mono ?_; rintro e w1 ⟨v, rfl, hown, hb⟩; have hcb : w1.cell? ⟨w.heap.size, 0, none⟩ = some (.int .i64 out) := (hb.cell (p := ⟨w.heap.size, 0, none⟩) (by simp)).trans (by simp))
        go_ret2
        exact ⟨rfl, ((Below.refl _ w).alloc (Nat.le_refl _) _).trans (hb.mono (by simp))⟩

set_option maxHeartbeats 1000000 in
theorem egress_none (A0 : Option Addr) (c0 : Nat) (l0 : List S60) (a1 out : Int) (w : World) (hC : Kd.C k60 w A0 l0.length l0) (hc : l0.length ≤ c0) (hl : l0.length ≤ 1000) (hy : whyN l0 a1 = 0) (hbd : badE 2 out = false) :
    Calls Try.prog 34 #[.slice A0 l0.length c0, .int .i64 a1, .int .i64 2, .int .i64 out] w fun e w' => e = .returned (.tuple #[.slice none 0 0, .int .i64 0]) ∧ Below w.heap.size w w' := by
  have HM := flood_yes A0 c0 l0 a1 (w.alloc (.cells #[.int .i64 out] 3)) (Kd.C_below hC (below_alloc (Below.refl _ _) _)) hc hl hy
  simp only [badE, Bool.or_eq_false_iff, decide_eq_false_iff_not] at hbd
  have d2 := decide_eq_false hbd.2.2.1
  have d3 := decide_eq_false hbd.2.2.2
  go_enter Try.func34, Try.ntmps34
  go_wp2_with (go_at_call 33; refine HM.mono ?_; rintro e w1 ⟨v, rfl, hown, hb⟩; have hcb : w1.cell? ⟨w.heap.size, 0, none⟩ = some (.int .i64 out) := (hb.cell (p := ⟨w.heap.size, 0, none⟩) (by simp)).trans (by simp))
  go_ret2
  exact ⟨rfl, ((Below.refl _ w).alloc (Nat.le_refl _) _).trans (hb.mono (by simp))⟩

set_option maxHeartbeats 1000000 in
theorem egress_all (A0 : Option Addr) (c0 : Nat) (l0 : List S60) (a1 cl out : Int) (w : World) (hC : Kd.C k60 w A0 l0.length l0) (hc : l0.length ≤ c0) (hl : l0.length ≤ 1000) (hy : whyN l0 a1 = 0) (hbd : badE cl out = false) (h2 : cl ≠ 2) (h1 : cl = 1 ∨ out = -1) :
    Calls Try.prog 34 #[.slice A0 l0.length c0, .int .i64 a1, .int .i64 cl, .int .i64 out] w fun e w' => ∃ v, e = .returned (.tuple #[v, .int .i64 0]) ∧ w'.ownsRow w.heap.size 3 1 v (goes l0 a1 l0.length).length ((goes l0 a1 l0.length).map (Value.int .i64)) ∧ Below w.heap.size w w' := by
  have HM := flood_yes A0 c0 l0 a1 (w.alloc (.cells #[.int .i64 out] 3)) (Kd.C_below hC (below_alloc (Below.refl _ _) _)) hc hl hy
  simp only [badE, Bool.or_eq_false_iff, decide_eq_false_iff_not] at hbd
  have d0 := decide_eq_false hbd.1
  have d1 := decide_eq_false hbd.2.1
  have d2 := decide_eq_false hbd.2.2.1
  have d3 := decide_eq_false hbd.2.2.2
  have d4 : (cl == 2) = false := beq_eq_false_iff_ne.2 h2
  by_cases h : cl = 1
  · subst h
    go_enter Try.func34, Try.ntmps34
    go_wp2_with (go_at_call 33; refine HM.mono ?_; rintro e w1 ⟨v, rfl, hown, hb⟩; have hcb : w1.cell? ⟨w.heap.size, 0, none⟩ = some (.int .i64 out) := (hb.cell (p := ⟨w.heap.size, 0, none⟩) (by simp)).trans (by simp))
    go_ret2
    exact ⟨v, rfl, own_weaken hown (by simp), ((Below.refl _ w).alloc (Nat.le_refl _) _).trans (hb.mono (by simp))⟩
  · have d5 : (cl == 1) = false := beq_eq_false_iff_ne.2 h
    obtain rfl : out = -1 := by omega
    go_enter Try.func34, Try.ntmps34
    go_wp2_with (go_at_call 33; refine HM.mono ?_; rintro e w1 ⟨v, rfl, hown, hb⟩; have hcb : w1.cell? ⟨w.heap.size, 0, none⟩ = some (.int .i64 (-1)) := (hb.cell (p := ⟨w.heap.size, 0, none⟩) (by simp)).trans (by simp))
    go_ret2
    exact ⟨v, rfl, own_weaken hown (by simp), ((Below.refl _ w).alloc (Nat.le_refl _) _).trans (hb.mono (by simp))⟩

set_option maxHeartbeats 1000000 in
theorem egress_one (A0 : Option Addr) (c0 : Nat) (l0 : List S60) (a1 cl out : Int) (w : World) (hC : Kd.C k60 w A0 l0.length l0) (hc : l0.length ≤ c0) (hl : l0.length ≤ 1000) (hy : whyN l0 a1 = 0) (hbd : badE cl out = false) (h2 : cl ≠ 2) (h1 : cl ≠ 1) (hout : out ≠ -1) :
    Calls Try.prog 34 #[.slice A0 l0.length c0, .int .i64 a1, .int .i64 cl, .int .i64 out] w fun e w' => ∃ v, e = .returned (.tuple #[v, .int .i64 0]) ∧ w'.ownsRow w.heap.size 3 1 v ((goes l0 a1 l0.length).filter (fun x => !(x != out))).length (((goes l0 a1 l0.length).filter (fun x => !(x != out))).map (Value.int .i64)) ∧ Below w.heap.size w w' := by
  have HM := flood_yes A0 c0 l0 a1 (w.alloc (.cells #[.int .i64 out] 3)) (Kd.C_below hC (below_alloc (Below.refl _ _) _)) hc hl hy
  have eg := enters_of (P := Try.prog) Try.func54 (by kernel_rfl) rfl
  simp only [badE, Bool.or_eq_false_iff, decide_eq_false_iff_not] at hbd
  have d0 := decide_eq_false hbd.1
  have d1 := decide_eq_false hbd.2.1
  have d2 := decide_eq_false hbd.2.2.1
  have d3 := decide_eq_false hbd.2.2.2
  have d4 : (cl == 2) = false := beq_eq_false_iff_ne.2 h2
  have d5 : (cl == 1) = false := beq_eq_false_iff_ne.2 h1
  have d6 : (out == -1) = false := beq_eq_false_iff_ne.2 hout
  go_enter Try.func34, Try.ntmps34
  go_wp2_with (go_at_call 33; refine HM.mono ?_; rintro e w1 ⟨v, rfl, hown, hb⟩; have hcb : w1.cell? ⟨w.heap.size, 0, none⟩ = some (.int .i64 out) := (hb.cell (p := ⟨w.heap.size, 0, none⟩) (by simp)).trans (by simp))
  refine (del_ints Try.l53 Try.zeroValue3 54 w.heap.size out (fun x => x != out) eg (not_out w.heap.size out) 3 (w.heap.size + 1) v (goes l0 a1 l0.length) w1 (by simpa using hown) hcb (by omega)).mono ?_
  rintro e w2 ⟨v', rfl, hown2, hg⟩
  have hsz := hb.size
  go_wp2
  go_ret2
  refine ⟨v', rfl, own_weaken hown2 (by omega), ?_⟩
  exact (((Below.refl _ w).alloc (Nat.le_refl _) _).trans (hb.mono (by simp))).grown hg (by simp at hsz; omega) (fun k hk => by
    rcases hown with ⟨_, ⟨rfl, _⟩ | ⟨g, cap, cur, rfl, hbase, _⟩⟩
    · simp [Value.ownBlock] at hk
    · simp [Value.ownBlock] at hk; simp at hbase; omega)

def relay_Egress.f (l0 : List S60) (a1 a2 a3 : Int) : Option (List Int × Int) :=
  if l0.length ≤ 1000 then (if whyN l0 a1 = 0 then (if badE a2 a3 = true then some ([], 1) else (if a2 = 2 then some ([], 0) else (if a2 = 1 ∨ a3 = -1 then some (goes l0 a1 l0.length, 0) else some ((goes l0 a1 l0.length).filter (fun x => !(x != a3)), 0)))) else some ([], whyN l0 a1)) else none

theorem relay_Egress.calls (A0 : Option Addr) (c0 : Nat) (l0 : List S60) (a1 a2 a3 : Int) (r1 : List Int) (r2 : Int) (w : World) (hr0 : Kd.C k60 w A0 l0.length l0) (hc0 : l0.length ≤ c0) (h : relay_Egress.f l0 a1 a2 a3 = some (r1, r2)) :
    Calls Try.prog 34 #[.slice A0 l0.length c0, .int .i64 a1, .int .i64 a2, .int .i64 a3] w fun e w' => ∃ v0_ : Value, e = .returned (.tuple #[v0_, .int .i64 r2]) ∧ Kd.R (Kd.int .i64) 3 w' w.heap.size (fun _ => True) v0_ r1 ∧ Below w.heap.size w w' := by
  unfold relay_Egress.f at h
  split at h
  · rename_i hl
    split at h
    · rename_i hy
      split at h
      · rename_i hbad
        simp only [Option.some.injEq, Prod.mk.injEq] at h
        obtain ⟨rfl, rfl⟩ := h
        refine (egress_bad A0 c0 l0 a1 a2 a3 w hr0 hc0 hl hy hbad).mono ?_
        rintro e w' ⟨rfl, hb⟩
        exact ⟨_, rfl, Kd.R_nil _ _ _ _ _, hb⟩
      · rename_i hbad
        have hbad' : badE a2 a3 = false := by simpa using hbad
        split at h
        · rename_i h2
          subst h2
          simp only [Option.some.injEq, Prod.mk.injEq] at h
          obtain ⟨rfl, rfl⟩ := h
          refine (egress_none A0 c0 l0 a1 a3 w hr0 hc0 hl hy hbad').mono ?_
          rintro e w' ⟨rfl, hb⟩
          exact ⟨_, rfl, Kd.R_nil _ _ _ _ _, hb⟩
        · rename_i h2
          split at h
          · rename_i h1
            simp only [Option.some.injEq, Prod.mk.injEq] at h
            obtain ⟨rfl, rfl⟩ := h
            refine (egress_all A0 c0 l0 a1 a2 a3 w hr0 hc0 hl hy hbad' h2 h1).mono ?_
            rintro e w' ⟨v, rfl, hown, hb⟩
            exact ⟨v, rfl, Kd.R_of_own hown (fun _ _ => trivial), hb⟩
          · rename_i h1
            simp only [Option.some.injEq, Prod.mk.injEq] at h
            obtain ⟨rfl, rfl⟩ := h
            refine (egress_one A0 c0 l0 a1 a2 a3 w hr0 hc0 hl hy hbad' h2 (fun e => h1 (.inl e)) (fun e => h1 (.inr e))).mono ?_
            rintro e w' ⟨v, rfl, hown, hb⟩
            exact ⟨v, rfl, Kd.R_of_own hown (fun _ _ => trivial), hb⟩
    · rename_i hn
      simp only [Option.some.injEq, Prod.mk.injEq] at h
      obtain ⟨rfl, rfl⟩ := h
      refine (egress_why A0 c0 l0 a1 a2 a3 w hr0 hl hn).mono ?_
      rintro e w' ⟨rfl, hb⟩
      exact ⟨_, rfl, Kd.R_nil _ _ _ _ _, hb⟩
  · cases h
end Go.Proofs.Ytnkkedkkjmehpaa.ERel
