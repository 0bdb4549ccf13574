import Derived.Shelf.SlicesE.DeleteFunc
import Derived.Shelf.SlicesE.Clone
import Derived.Sort.OwnSortedInts
namespace Go.Proofs
open Go.Shelf Go.RowKit Go.Lib Go.Sort
set_option linter.unusedVariables false
set_option linter.unusedSimpArgs false
variable {P : Program} {ρ : Ren}

/-- A predicate that reads one captured int. -/
def GivesAt (P : Program) (g B : Nat) (a : Int) (p : Int → Bool) : Prop :=
  ∀ (W : World) (x : Int), W.cell? ⟨B, 0, none⟩ = some (.int .i64 a) → FnGives P g #[.pointer (some ⟨B, 0, none⟩)] #[.int .i64 x] (.bool (p x)) W

theorem cell_sortWorld {w : World} {B blk n : Nat} {dk : Array Int} {os : Array Obj} {u : Value} (hne : B ≠ blk) (h : w.cell? ⟨B, 0, none⟩ = some u) :
    (sortWorld (Value.int .i64) w blk 0 n dk os).cell? ⟨B, 0, none⟩ = some u := by
  have hlt : B < w.heap.size := by
    rcases Nat.lt_or_ge B w.heap.size with h' | h'
    · exact h'
    · simp [World.cell?, Array.getElem?_eq_none h'] at h
  have e : (sortWorld (Value.int .i64) w blk 0 n dk os).heap[B]? = w.heap[B]? := by
    unfold sortWorld
    rw [heap_grow_old _ _ (by simpa using hlt)]
    simp [putRow, mapBlock, Sort.ahead, Array.getElem?_modify, Ne.symm hne]
  simp only [World.cell?] at h ⊢
  rw [e]
  exact h

set_option maxHeartbeats 1000000 in
theorem del_nil (L : SlLaysH.n10 P ρ) (fv : Value) (w : World) :
    Calls P (ρ.f 10) #[.slice none 0 0, fv] w fun e w' => e = .returned (.slice none 0 0) ∧ w' = w := by
  have mixed := L.mixed; have t0 := L.t0; have a0 := L.a0; have z0 := L.z0; have v0 := L.v0; have t3 := L.t3; have a3 := L.a3; have z3 := L.z3; have v3 := L.v3; have t4 := L.t4; have a4 := L.a4; have z4 := L.z4; have v4 := L.v4; have t22 := L.t22; have a22 := L.a22; have z22 := L.z22; have v22 := L.v22; have a23 := L.a23; have z23 := L.z23; have t25 := L.t25; have a25 := L.a25; have z25 := L.z25; have v25 := L.v25
  have hIF := fun W => AnyE.slices_IndexFunc_empty (P := P) (ρ := ρ) { L with } none 0 fv W
  have e6 : ∀ args w, (callFunc (ρ.f 6) args).run P w = .ok (.enter (ρ.f 6) args) w := L.f6.enters rfl
  obtain ⟨_, _, FG⟩ := L.f10
  go_enter FG, SlBodyH.n10_ntmps ρ
  go_wp2_with (go_at_fn (ρ.f 6); refine (hIF _).mono ?_; rintro e w' ⟨rfl, rfl⟩)
  go_ret
  exact ⟨rfl, rfl⟩

theorem del_ints (L : SlLaysH.n10 P ρ) (v23 : ∀ w, (zeroValue (ρ.t 23)).run P w = .ok (.int .i64 0) w) (g B : Nat) (a : Int) (p : Int → Bool)
    (eg : ∀ args w, (callFunc g args).run P w = .ok (.enter g args) w) (hg : GivesAt P g B a p) (e : TypeId) (base : Nat) (v : Value) (zs : List Int) (w : World)
    (hown : w.ownsRow base e 1 v zs.length (zs.map (Value.int .i64))) (hB : w.cell? ⟨B, 0, none⟩ = some (.int .i64 a)) (hBb : B < base) :
    Calls P (ρ.f 10) #[v, .func (.func g) #[] #[.pointer (some ⟨B, 0, none⟩)]] w fun en w' => ∃ v', en = .returned v' ∧
      w'.ownsRow base e 1 v' (zs.filter fun x => !p x).length ((zs.filter fun x => !p x).map (Value.int .i64)) ∧ w.grownBy w' v.ownBlock := by
  rcases hown with ⟨_, ⟨rfl, h0⟩ | ⟨b, cap, cur, rfl, hbase, hb, hn, hcap, hsz, htk⟩⟩
  · have : zs = [] := List.length_eq_zero_iff.1 h0
    subst this
    refine (del_nil L _ w).mono ?_
    rintro en w' ⟨rfl, rfl⟩
    exact ⟨_, rfl, ⟨rfl, .inl ⟨rfl, rfl⟩⟩, World.grownBy.refl _ _⟩
  · have hH : Holds (Value.int .i64) w b 0 zs.toArray := holds_of_blockI hb (by simpa using htk)
    have hne : B ≠ b := by omega
    have hp : PredAt P g #[.pointer (some ⟨B, 0, none⟩)] (Value.int .i64) p w := fun W x hW => hg W x (hW.cell (p := ⟨B, 0, none⟩) (by
      rcases Nat.lt_or_ge B w.heap.size with h' | h'
      · exact h'
      · simp [World.cell?, Array.getElem?_eq_none h'] at hB) |>.trans hB)
    have hpo : PredOver P g #[.pointer (some ⟨B, 0, none⟩)] (Value.int .i64) p b 0 zs.toArray.size w := fun n os dk x _ => hg _ x (cell_sortWorld hne hB)
    have hm : cap ≤ 9223372036854775807 := by unfold maxLen at hcap; exact hcap
    have h := AnyE.slices_DeleteFunc L (Value.int .i64) (fun _ => rfl) p g #[.pointer (some ⟨B, 0, none⟩)] eg 0 v23 b 0 cap zs.toArray w hp hpo hH (by simp; omega) (by simpa using hn)
    simp only [List.size_toArray] at h
    refine h.mono ?_
    rintro en w' ⟨rfl, q, rfl⟩
    have hle : (zs.filter fun x => !p x).length ≤ zs.length := List.length_filter_le _ _
    refine ⟨_, rfl, ⟨by simp, .inr ⟨b, cap, putCells (Value.int .i64) 0 ((List.filter (fun x => !p x) zs ++ List.replicate (zs.length - (List.filter (fun x => !p x) zs).length) 0).toArray) cur, rfl, hbase, ?_, by omega, hcap, ?_, ?_⟩⟩, ?_⟩
    · have := heap_sortedI (n := q) (os := #[]) ((List.filter (fun x => !p x) zs ++ List.replicate (zs.length - (List.filter (fun x => !p x) zs).length) 0).toArray) hb
      rw [grow_empty] at this
      exact this
    · simp [putCells, hsz]
    · have h1 := take_putCellsI cur (List.filter (fun x => !p x) zs ++ List.replicate (zs.length - (List.filter (fun x => !p x) zs).length) 0) (by simp; omega)
      have h2 := congrArg (List.take (List.filter (fun x => !p x) zs).length) h1
      rw [List.take_take, List.map_append, List.take_append_of_le_length (by simp), List.take_of_length_le (l := List.map _ _) (by simp)] at h2
      rw [← h2, Nat.mul_one]
      congr 1
      simp
    · have := grownBy_sortedI (w := w) (g := b) (n := q) (os := #[]) ((List.filter (fun x => !p x) zs ++ List.replicate (zs.length - (List.filter (fun x => !p x) zs).length) 0).toArray)
      rw [grow_empty] at this
      exact this
end Go.Proofs
