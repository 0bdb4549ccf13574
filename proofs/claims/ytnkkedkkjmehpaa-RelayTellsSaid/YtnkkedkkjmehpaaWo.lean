import Derived.Test.YtnkkedkkjmehpaaShelf
import Derived.Test.YtnkkedkkjmehpaaDel
import Derived.Test.YtnkkedkkjmehpaaWMore
import Derived.Outline
namespace Go.Proofs.Ytnkkedkkjmehpaa.ELru
open Go.RowKit Go.Proofs.YtnkkedkkjmehpaaW.PrintWords Go.Proofs.YtnkkedkkjmehpaaW.PrintLast Go.Proofs.YtnkkedkkjmehpaaW.PrintMore Go.Shelf
set_option linter.unusedVariables false
set_option linter.unusedSimpArgs false

theorem info3 : (Try.prog.info? 3).map (fun i => (i.zero, i.size, i.bytes)) = some (some (.int .i64 0), 1, 8) := by kernel_rfl

/-- The closure 'x == who'. -/
theorem is_who (B : Nat) (a : Int) : GivesAt Try.prog 59 B a (fun x => x == a) := by
  intro W x hc
  unfold FnGives
  go_enter Try.func59, Try.ntmps59
  go_wp2
  go_ret
  exact ⟨rfl, 0, rfl⟩

theorem clone_any (A0 : Option Addr) (c0 : Nat) (l0 : List Int) (w : World) (hr0 : Kd.C (Kd.int .i64) w A0 l0.length l0) (hl : l0.length ≤ 1000) :
    Calls Try.prog 58 #[.slice A0 l0.length c0] w fun e w' => ∃ v, e = .returned v ∧ w'.ownsRow w.heap.size 3 1 v l0.length (l0.map (Value.int .i64)) ∧ Below w.heap.size w w' := by
  cases A0 with
  | none =>
    have h0 : l0 = [] := by
      rcases Nat.eq_zero_or_pos l0.length with h | h
      · exact List.length_eq_zero_iff.1 h
      · obtain ⟨ad, he, _⟩ := hr0.2.2 h
        cases he
    subst h0
    refine (AnyE.slices_Clone_nil Try.l58 0 c0 w).mono ?_
    rintro e w' ⟨rfl, rfl⟩
    exact ⟨_, rfl, ⟨rfl, .inl ⟨rfl, rfl⟩⟩, Below.refl _ _⟩
  | some ad =>
    obtain ⟨i0, hi, hz0, hz1, hz2⟩ := info_parts info3
    have q22 : ∀ (w : World) (a : Option Addr) (n c n' c' : Nat), (binOp .eql 74 (.slice a n c) (.slice none n' c')).run Try.prog w = .ok (.bool a.isNone) w := fun w a n c n' c' => Lib.run_eql_slice_nil w _ _ a n c n' c' Try.underlying74
    have A := Aside0.mk hr0
    clear hr0
    go_enter Try.func58, Try.ntmps58
    go_wp2_with (at_builtin; refine wpList_append_own _ rfl _ _ 74 rfl w.heap.size 3 i0 (.int .i64 0) 1 8 Try.underlying74 hi hz0 hz1 hz2 rfl (by decide) _ _ _ rfl (World.ownsRow_made w #[] 0 (Nat.le_refl _) (Nat.zero_le _) (by simp)) ad l0.length c0 (l0.map (Value.int .i64)) rfl ?qc1 ?qc2 ?qc3 ?qc4 ?qc5 ?qc6 ?_)
    case qc1 => simp
    case qc2 =>
      intro j u hj
      have hj' : j < l0.length := by
        rcases Nat.lt_or_ge j l0.length with h | h
        · exact h
        · rw [List.getElem?_eq_none (by simpa using h)] at hj; cases hj
      obtain ⟨ad', he, hc⟩ := Kd.at_int A.out (j : Int) (by omega) (by omega)
      cases he
      have h1 : u = .int .i64 (rd l0 j) := by
        rw [List.getElem?_map, List.getElem?_eq_getElem hj'] at hj
        simp only [Option.map_some, Option.some.injEq] at hj
        rw [← hj]
        simp [rd, hj']
      rw [h1]
      exact pw_cell_below (below_alloc (Below.refl _ _) _) hc
    case qc3 => intro u hu; obtain ⟨x, _, rfl⟩ := List.mem_map.1 hu; rfl
    case qc4 => unfold maxLen; omega
    case qc5 => omega
    case qc6 => simp
    intro v' w1 hown hgrow hnil
    go_wp2
    go_ret
    refine ⟨v', rfl, by simpa using hown, ?_⟩
    exact ((Below.refl _ w).alloc (Nat.le_refl _) _).grown hgrow (by simp) (by intro k hk; simp [Value.ownBlock] at hk; omega)

/-- 'without': all but one. -/
theorem without_any (A0 : Option Addr) (c0 : Nat) (l0 : List Int) (a1 : Int) (w : World) (hr0 : Kd.C (Kd.int .i64) w A0 l0.length l0) (hl : l0.length ≤ 1000) :
    Calls Try.prog 46 #[.slice A0 l0.length c0, .int .i64 a1] w fun e w' => ∃ v0_ : Value, e = .returned (v0_) ∧ Kd.R (Kd.int .i64) 3 w' w.heap.size (fun _ => True) v0_ (l0.filter (fun x => !(x == a1))) ∧ Below w.heap.size w w' := by
  have eg := enters_of (P := Try.prog) Try.func59 (by kernel_rfl) rfl
  have hmf : ∀ (fn : Fn) (first cap : Array Value) (w : World), (Instr.makeFunc fn first cap).run Try.prog w = .ok (.func fn first cap) w := fun _ _ _ _ => rfl
  have hcl := clone_any A0 c0 l0 (w.alloc (.cells #[.int .i64 a1] 3)) (Kd.C_below hr0 (below_alloc (Below.refl _ _) _)) hl
  go_enter Try.func46, Try.ntmps46
  go_wp2_with (go_at_call 58; refine hcl.mono ?_; rintro e w1 ⟨v, rfl, hown, hb⟩)
  have hB : w1.cell? ⟨w.heap.size, 0, none⟩ = some (.int .i64 a1) := (hb.cell (p := ⟨w.heap.size, 0, none⟩) (by simp)).trans (by simp)
  refine (del_ints Try.l57 Try.zeroValue3 59 w.heap.size a1 (fun x => x == a1) eg (is_who w.heap.size a1) 3 (w.heap.size + 1) v l0 w1 (by simpa using hown) hB (by omega)).mono ?_
  rintro e w2 ⟨v', rfl, hown2, hg⟩
  have hsz := hb.size
  go_wp2
  go_ret
  refine ⟨v', rfl, Kd.R_of_own (own_weaken hown2 (by omega)) (fun _ _ => trivial), ?_⟩
  exact (((Below.refl _ w).alloc (Nat.le_refl _) _).trans (hb.mono (by simp))).grown hg (by simp at hsz; omega) (fun k hk => by
    rcases hown with ⟨_, ⟨rfl, _⟩ | ⟨g, cap, cur, rfl, hbase, _⟩⟩
    · simp [Value.ownBlock] at hk
    · simp [Value.ownBlock] at hk; simp at hbase; omega)
end Go.Proofs.Ytnkkedkkjmehpaa.ELru
