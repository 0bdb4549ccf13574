/- A worker of bpdu.sum: from its birth to its release. Written by mkwg.py. -/
/- Region 3 of bpdu.sum, whose order is drawn. Written by mkreg3.py. -/
/- What the starter of bpdu.sum knows, beside its workers. -/
/- What the starter of bpdu.sum knows of its argument, and what its two workers know of their halves. -/
import Derived.Test.YtnikfjfcbpeieaaMXb
import Derived.Test.YtnikfjfcbpeieaaMXa
import Derived.Conc.CompanyDraw
import Derived.Laws.Slices
section
namespace Go.Proofs.Ytnikfjfcbpeieaa.Lk
open Go Go.Conc Go.RowKit
open Go.ConcR (KK wgBlock WgAt stA smA rd wr mk)
open Go.ConcR.Gen
set_option linter.unusedVariables false
set_option linter.unusedSimpArgs false
theorem arr15 (T : Array Value) (h : T.size = 15) : ∃ v0 v1 v2 v3 v4 v5 v6 v7 v8 v9 v10 v11 v12 v13 v14 : Value, T = #[v0, v1, v2, v3, v4, v5, v6, v7, v8, v9, v10, v11, v12, v13, v14] := by
  obtain ⟨l⟩ := T
  simp only [List.size_toArray] at h
  rcases l with _ | ⟨v0, l⟩
  · simp at h
  rcases l with _ | ⟨v1, l⟩
  · simp at h
  rcases l with _ | ⟨v2, l⟩
  · simp at h
  rcases l with _ | ⟨v3, l⟩
  · simp at h
  rcases l with _ | ⟨v4, l⟩
  · simp at h
  rcases l with _ | ⟨v5, l⟩
  · simp at h
  rcases l with _ | ⟨v6, l⟩
  · simp at h
  rcases l with _ | ⟨v7, l⟩
  · simp at h
  rcases l with _ | ⟨v8, l⟩
  · simp at h
  rcases l with _ | ⟨v9, l⟩
  · simp at h
  rcases l with _ | ⟨v10, l⟩
  · simp at h
  rcases l with _ | ⟨v11, l⟩
  · simp at h
  rcases l with _ | ⟨v12, l⟩
  · simp at h
  rcases l with _ | ⟨v13, l⟩
  · simp at h
  rcases l with _ | ⟨v14, l⟩
  · simp at h
  rcases l with _ | ⟨x, l⟩
  · exact ⟨v0, v1, v2, v3, v4, v5, v6, v7, v8, v9, v10, v11, v12, v13, v14, rfl⟩
  · simp at h

theorem nm89 : (Try.f89.name == "runtime.NumGoroutine") = false := by kernel_rfl
theorem nm75 : (Try.f75.name == "runtime.NumGoroutine") = false := by kernel_rfl
noncomputable def bot : Frame := { (default : Frame) with fn := Try.prog.funcs.size, defers := [], mode := .panicking [goexitEntry] }
noncomputable def c88 : Code := Try.f88.body.getD .skip
noncomputable def L88 : Code := cLp (cB (cR (cR c88)))
def call88 (Wg h nb : Nat) : Deferred := { target := .fn (.func 88) #[.pointer (some ⟨Wg, 0, none⟩), .pointer (some ⟨h, 0, none⟩), .pointer (some ⟨nb, 0, none⟩)], args := #[] }
theorem born_step (Wg h nb : Nat) (w : World) : stepG Try.prog false (born Try.prog (call88 Wg h nb)) w =
    .go (G ((baseD 88).at ⟨#[.pointer (some ⟨Wg, 0, none⟩), .pointer (some ⟨h, 0, none⟩), .pointer (some ⟨nb, 0, none⟩), undef, undef, undef, undef, undef, undef, undef, undef, undef, undef, undef, undef], []⟩ [.code c88]) [bot]) w #[] := by
  simp [born, call88, stepG, unwind, callDeferred, invoke, callFunc, Try.func88, Try.f88, seen, GStep.after, G, Frame.enter, Frame.at, baseD, bot, c88]
theorem tail88 (T : Array Value) (todo : List Item) : Qs Try.prog 0 (G { (baseD 88).at ⟨T, []⟩ todo with mode := .returning } [bot]) := by
  refine Qs.ctl (g' := G bot []) rfl (fun w => ?_) (Qs.ctl (g' := { G bot [] with status := .finished }) rfl (fun w => ?_) ⟨0, rfl, rfl⟩)
  · simp [G, stepG, unwind, doReturn, results, Frame.at, baseD, bot, Try.func88, Try.f88, seen, GStep.after, goexitEntry]
  · simp [G, stepG, unwind, bot, goexitEntry, Frame.catches]
    rfl

/-- What the worker knows. -/
structure KW (Wg nb h : Nat) (A : Option Addr) (n cap : Nat) (l : List Int) (w : World) : Prop where
  half : w.cell? ⟨h, 0, none⟩ = some (.slice A n cap)
  el : ∀ p ad, p < n → A = some ad → w.cell? (ad.add p) = some (.int .u8 (l.getD p 0))
  live : Live Wg w
  cnt : Cnt nb w
structure GW (S : Nat → Prop) (Wg nb h m : Nat) (A : Option Addr) (n : Nat) (l : List Int) : Prop where
  hh : h < m ∧ h ≠ Wg ∧ h ≠ nb ∧ ¬ S h
  hA : ∀ ad, A = some ad → ad.block < m ∧ ad.block ≠ Wg ∧ ad.block ≠ nb ∧ ¬ S ad.block
  nil : 0 < n → ∃ ad, A = some ad
  len : l.length = n
  small : n ≤ 1000000000
  range : ∀ x ∈ l, 0 ≤ x ∧ x < 256

section
variable {S : Nat → Prop} {Wg nb h : Nat} {Low : Nat → Nat} {A : Option Addr} {n cap i : Nat} {l : List Int} {w w₁ : World}
theorem KW.rely (g : GW S Wg nb h (Low i) A n l) (k : KW Wg nb h A n cap l w) (r : Env Wg nb (Low i) w w₁) : KW Wg nb h A n cap l w₁ := by
  obtain ⟨h1, h2, h3, _⟩ := g.hh
  refine ⟨(Go.ConcN.cell_of_block (r.low h h1 h2 h3) 0).trans k.half, fun p ad hp ha => ?_, r.live k.live, r.cnt k.cnt⟩
  obtain ⟨h1, h2, h3, _⟩ := g.hA ad ha
  exact (World.cell?_of_block (r.low (ad.add p).block (by rw [add_block]; exact h1) (by rw [add_block]; exact h2) (by rw [add_block]; exact h3))).trans (k.el p ad hp ha)
theorem okK_read (b : Addr) (hb : b.block < Low i ∧ b.block ≠ Wg ∧ b.block ≠ nb ∧ ¬ S b.block) : OkK S Wg nb Low (Low i) i (.ofEvent ⟨.cell b, false, false⟩) := by
  refine ⟨fun y hy => ?_, by simp [MemAct.ofEvent], hb.1⟩
  simp only [MemAct.ofEvent, MemAct.touch?, Option.some.injEq] at hy
  subst hy
  exact .inr ⟨⟨b, rfl, hb.1, hb.2.1, hb.2.2.1, hb.2.2.2⟩, rfl, rfl⟩

theorem Gs.weaken {P : Program} {main : Bool} {R : World → World → Prop} {D : World → World → Array Event → Prop} {Stop : Goroutine → World → Prop} {F F' : World → Prop} {g : Goroutine} (h : ∀ w, F w → F' w) (k : Gs P main R D Stop F' g) : Gs P main R D Stop F g := let ⟨n, k⟩ := k; ⟨n, fun w hw => k w (h w hw)⟩
theorem Gs.loosen {P : Program} {main : Bool} {R : World → World → Prop} {D D' : World → World → Array Event → Prop} {Stop : Goroutine → World → Prop} {F : World → Prop} {g : Goroutine} (h : ∀ w w' es, D w w' es → D' w w' es) (k : Gs P main R D Stop F g) : Gs P main R D' Stop F g := by
  have key : ∀ n g w, Goes P main R D Stop n g w → Goes P main R D' Stop n g w := by
    intro n
    induction n with
    | zero => exact fun g w k => k
    | succ n ih =>
      intro g w k
      refine k.imp id fun ⟨hs, k⟩ => ⟨hs, fun w₁ h₁ => ?_⟩
      have := k w₁ h₁
      revert this
      cases stepG P main g w₁ <;> simp only [GStep.goes, imp_self]
      exact fun ⟨d, x⟩ => ⟨h _ _ _ d, ih _ _ x⟩
  obtain ⟨n, k⟩ := k
  exact ⟨n, fun w hw => key n g w (k w hw)⟩
theorem CntAt.thaw {c : Int} (h : CntAt nb w c) : w.frozen? (cA nb) = false := by unfold CntAt at h; simp [World.frozen?, cA, h]
/-- Adds, from every world that the worker knows enough of. -/
def AddsG (S : Nat → Prop) (Wg nb : Nat) (Low : Nat → Nat) (i : Nat) (F : World → Prop) : List Int → Goroutine → Prop
  | [], g => Gs Try.prog false (Env Wg nb (Low i)) (DK S Wg nb Low i) (SR (Env Wg nb (Low i)) Wg) F g
  | x :: r, g => Gs Try.prog false (Env Wg nb (Low i)) (DK S Wg nb Low i) (AddStop S Wg nb Low i x r) F g
theorem AddsG.adds {F : World → Prop} {l : List Int} {g : Goroutine} (k : AddsG S Wg nb Low i F l g) (hw : F w) : Adds S Wg nb Low i l g w := by
  cases l with
  | nil => exact Gs.runs k hw
  | cons x r => exact Gs.runs k hw

def Head (Wg nb : Nat) (A : Option Addr) (n cap p : Nat) (g : Goroutine) : Prop :=
  ∃ T : Array Value, g = G ((baseD 88).at ⟨T, [dcall 75 #[.pointer (some ⟨Wg, 0, none⟩)]]⟩ [.code L88, .inLoop L88, .inBlock 0]) [bot] ∧ T.size = 15 ∧ T[2]? = some (.pointer (some ⟨nb, 0, none⟩)) ∧
    T[5]? = some (.slice A n cap) ∧ T[6]? = some (.int .i64 n) ∧ T[7]? = some (.int .i64 p)

set_option maxRecDepth 100000 in
set_option maxHeartbeats 16000000 in
theorem adds_from (g : GW S Wg nb h (Low i) A n l) (hWL : Wg < Low i) (hnL : nb < Low i) (hne : nb ≠ Wg) : ∀ (m p : Nat), p + m = n → ∀ gr, Head Wg nb A n cap p gr → AddsG S Wg nb Low i (KW Wg nb h A n cap l) (l.drop p) gr := by
  have hR : ∀ w w₁, KW Wg nb h A n cap l w → Env Wg nb (Low i) w w₁ → KW Wg nb h A n cap l w₁ := fun w w₁ k r => k.rely g r
  have UK : Rule (Env Wg nb (Low i)) (DK S Wg nb Low i) (KW Wg nb h A n cap l) := ⟨hR, fun _ _ => ⟨rfl, by simp⟩⟩
  intro m
  induction m with
  | zero =>
    rintro p hp gr ⟨T, rfl, hT, t2, t5, t6, t7⟩
    obtain rfl : p = n := by omega
    obtain ⟨v0, v1, v2, v3, v4, v5, v6, v7, v8, v9, v10, v11, v12, v13, v14, rfl⟩ := arr15 T hT
    simp only [List.getElem?_toArray, List.getElem?_cons_succ, List.getElem?_cons_zero, Option.some.injEq] at t2 t5 t6 t7
    subst t2 t5 t6 t7
    rw [List.drop_eq_nil_of_le (by have := g.len; omega)]
    simp only [AddsG, L88, c88, Try.f88, Option.getD_some, cR, cB, cLp]
    have U := UK
    have hnl : ¬ ((p : Int) < (p : Int)) := by omega
    have hwx : True := trivial
    have hmx : True := trivial
    have hwp : True := trivial
    repeat (first
      | refine Gs.seq U ?_
      | refine Gs.regionEnd U ?_
      | (refine Gs.region U ?_; simp only [List.size_toArray, List.length_cons, List.length_nil, Nat.reduceAdd, Nat.zero_add, List.range, List.range.loop])
      | (refine Gs.cond false U rfl ?_; simp only [if_true, if_false, Bool.false_eq_true, ↓reduceIte])
      | refine Gs.exit U rfl ?_
      | (apply Gs.val U rfl rfl (by k_ne); (case hr => intro w hw; go_simp; (try simp only [hwx, hmx, hwp]); (try rfl)); (case he => intro w hw; simp [go_sem]); walk_nrm; (try simp only [hwx, hmx, hwp]))
      | refine Gs.end_ U ?_)
    refine Gs.go U rfl (fun w hw => stepG_unwind_enter (c := Try.f75.body.getD .skip) rfl Try.func75 nm75 rfl) ?_
    refine Gs.weaken (fun w hw => hw.live) (Gs.loosen (D := Sil) (fun w w' es h => ⟨h.1, by rw [h.2]; simp⟩) ?_)
    exact done_walk (fun w w₁ hl r => r.live hl) rfl (tail88 _ _)
  | succ m ih =>
    rintro p hp gr ⟨T, rfl, hT, t2, t5, t6, t7⟩
    obtain ⟨ad, rfl⟩ := g.nil (by omega)
    have hpl : p < l.length := by have := g.len; omega
    have hx : l.drop p = l.getD p 0 :: l.drop (p + 1) := by rw [List.drop_eq_getElem_cons hpl]; simp [List.getD_eq_getElem?_getD, List.getElem?_eq_getElem hpl]
    have hxr := g.range (l.getD p 0) (by simp [List.getD_eq_getElem?_getD, List.getElem?_eq_getElem hpl])
    rw [hx]
    have hel : ∀ w, KW Wg nb h (some ad) n cap l w → w.cell? (ad.add p) = some (.int .u8 (l.getD p 0)) := fun w hw => hw.el p ad (by omega) rfl
    generalize l.getD p 0 = x at hxr hel hx ⊢
    have hsm := g.small
    obtain ⟨v0, v1, v2, v3, v4, v5, v6, v7, v8, v9, v10, v11, v12, v13, v14, rfl⟩ := arr15 T hT
    simp only [List.getElem?_toArray, List.getElem?_cons_succ, List.getElem?_cons_zero, Option.some.injEq] at t2 t5 t6 t7
    subst t2 t5 t6 t7
    have hlt : (p : Int) < (n : Int) := by omega
    have hp0 : (0 : Int) ≤ (p : Int) := by omega
    have hwx : IntKind.u32.wrap x = x := by rw [IntKind.wrap_u32]; omega
    have hmx : x % 4294967296 = x := by omega
    have hwp : IntKind.i64.wrap ((p : Int) + 1) = ((p + 1 : Nat) : Int) := by rw [IntKind.wrap_i64]; omega
    have hadd := ih (p + 1) (by omega)
    simp only [AddsG, L88, c88, Try.f88, Option.getD_some, cR, cB, cLp, Head] at hadd ⊢
    have U := UK
    repeat (first
      | refine Gs.seq U ?_
      | refine Gs.block U ?_
      | refine Gs.skip U ?_
      | refine Gs.regionEnd U ?_
      | (refine Gs.region U ?_; simp only [List.size_toArray, List.length_cons, List.length_nil, Nat.reduceAdd, Nat.zero_add, List.range, List.range.loop])
      | (refine Gs.cond true U rfl ?_; simp only [if_true, if_false, Bool.false_eq_true, ↓reduceIte])
      | (apply Gs.val U rfl rfl (by k_ne); (case hr => intro w hw; go_simp; (try simp only [hwx, hmx, hwp]); (try rfl)); (case he => intro w hw; simp [go_sem, hlt, hp0]); walk_nrm; (try simp only [hwx, hmx, hwp])))
    apply Gs.read U rfl rfl (by k_ne)
    case hr => intro w hw; have hex := hel w hw; go_simp; (try rfl)
    case he =>
      intro w hw
      have hex := hel w hw
      refine ⟨rfl, fun e he => ?_⟩
      have hm := mem_listed he
      simp [go_sem, hex] at hm
      subst hm
      exact ⟨okK_read _ (by rw [add_block]; exact g.hA ad rfl), by simp, by simp⟩
    walk_nrm
    repeat (first
      | refine Gs.seq U ?_
      | refine Gs.regionEnd U ?_
      | (refine Gs.region U ?_; simp only [List.size_toArray, List.length_cons, List.length_nil, Nat.reduceAdd, Nat.zero_add, List.range, List.range.loop])
      | (apply Gs.val U rfl rfl (by k_ne); (case hr => intro w hw; go_simp; (try simp only [hwx, hmx, hwp]); (try rfl)); (case he => intro w hw; simp [go_sem, hlt, hp0]); walk_nrm; (try simp only [hwx, hmx, hwp]))
      | (refine Gs.call U rfl rfl (by k_ne) rfl Try.func89 nm89 rfl ?_; walk_nrmf Try.f89))
    refine Gs.stop U fun w hw => ⟨rfl, fun c hc => ⟨_, stepG_add_atomic (v := c) (d := x) rfl rfl (by k_ne) rfl Try.func115 x115_n x115_b x115_x .u32 x115_f rfl rfl hc.cell hc.thaw, ?_⟩⟩
    have hw' := hw.rely g (RM.of_cnt (Go.Conc.aside_setCell w (cA nb) (.int .u32 (IntKind.u32.wrap (c + x)))) ⟨_, hc.set _⟩ hne.symm).env
    refine AddsG.adds ?_ hw'
    walk_nrm
    clear hw' hc hw
    cases hl : l.drop (p + 1) with
    | nil =>
      rw [hl] at hadd
      simp only [AddsG] at hadd ⊢
      have U := UK
      repeat (first
        | refine Gs.inBlock U ?_
        | refine Gs.regionEnd U ?_
        | (refine Gs.region U ?_; simp only [List.size_toArray, List.length_cons, List.length_nil, Nat.reduceAdd, Nat.zero_add, List.range, List.range.loop])
        | (apply Gs.val U rfl rfl (by k_ne); (case hr => intro w hw; go_simp; (try simp only [hwx, hmx, hwp]); (try rfl)); (case he => intro w hw; simp [go_sem, hlt, hp0]); walk_nrm; (try simp only [hwx, hmx, hwp]))
        | (refine Gs.leave1 U rfl rfl Try.func89 rfl ?_; walk_nrm)
        | refine Gs.ret U ?_)
      refine Gs.inLoop U ?_
      exact hadd _ ⟨_, rfl, rfl, rfl, rfl, rfl, rfl⟩
    | cons y r =>
      rw [hl] at hadd
      simp only [AddsG] at hadd ⊢
      have U := UK
      repeat (first
        | refine Gs.inBlock U ?_
        | refine Gs.regionEnd U ?_
        | (refine Gs.region U ?_; simp only [List.size_toArray, List.length_cons, List.length_nil, Nat.reduceAdd, Nat.zero_add, List.range, List.range.loop])
        | (apply Gs.val U rfl rfl (by k_ne); (case hr => intro w hw; go_simp; (try simp only [hwx, hmx, hwp]); (try rfl)); (case he => intro w hw; simp [go_sem, hlt, hp0]); walk_nrm; (try simp only [hwx, hmx, hwp]))
        | (refine Gs.leave1 U rfl rfl Try.func89 rfl ?_; walk_nrm)
        | refine Gs.ret U ?_)
      refine Gs.inLoop U ?_
      exact hadd _ ⟨_, rfl, rfl, rfl, rfl, rfl, rfl⟩

set_option maxRecDepth 100000 in
set_option maxHeartbeats 16000000 in
/-- ████ FROM ITS BIRTH. ████ -/
theorem adds_all (g : GW S Wg nb h (Low i) A n l) (hWL : Wg < Low i) (hnL : nb < Low i) (hne : nb ≠ Wg) : AddsG S Wg nb Low i (KW Wg nb h A n cap l) l (born Try.prog (call88 Wg h nb)) := by
  have hR : ∀ w w₁, KW Wg nb h A n cap l w → Env Wg nb (Low i) w w₁ → KW Wg nb h A n cap l w₁ := fun w w₁ k r => k.rely g r
  have U : Rule (Env Wg nb (Low i)) (DK S Wg nb Low i) (KW Wg nb h A n cap l) := ⟨hR, fun _ _ => ⟨rfl, by simp⟩⟩
  have hadd := adds_from (cap := cap) g hWL hnL hne n 0 (by omega)
  have hlt : True := trivial
  have hp0 : True := trivial
  have hwx : True := trivial
  have hmx : True := trivial
  have hwp : True := trivial
  rw [List.drop_zero] at hadd
  simp only [L88, c88, Try.f88, Option.getD_some, cR, cB, cLp, Head] at hadd
  generalize hl : l = l' at hadd ⊢
  cases l' with
  | nil =>
    simp only [AddsG] at hadd ⊢
    rw [← hl] at hadd ⊢
    refine Gs.go U rfl (fun w hw => born_step Wg h nb w) ?_
    simp only [c88, Try.f88, Option.getD_some]
    repeat (first
      | refine Gs.seq U ?_
      | refine Gs.regionEnd U ?_
      | (refine Gs.region U ?_; simp only [List.size_toArray, List.length_cons, List.length_nil, Nat.reduceAdd, Nat.zero_add, List.range, List.range.loop])
      | (refine Gs.go U rfl (fun w hw => stepG_defer rfl rfl (by k_ne) rfl) ?_; walk_nrm))
    apply Gs.read U rfl rfl (by k_ne)
    case hr => intro w hw; have hex := hw.half; go_simp; (try rfl)
    case he =>
      intro w hw
      have hex := hw.half
      refine ⟨rfl, fun e he => ?_⟩
      have hm := mem_listed he
      simp [go_sem, hex] at hm
      subst hm
      exact ⟨okK_read _ g.hh, by simp, by simp⟩
    walk_nrm
    repeat (first
      | refine Gs.block U ?_
      | refine Gs.regionEnd U ?_
      | (apply Gs.val U rfl rfl (by k_ne); (case hr => intro w hw; go_simp; (try simp only [hwx, hmx, hwp]); (try rfl)); (case he => intro w hw; simp [go_sem, hlt, hp0]); walk_nrm; (try simp only [hwx, hmx, hwp])))
    refine Gs.loop U ?_
    exact hadd _ ⟨_, rfl, rfl, rfl, rfl, rfl, rfl⟩
  | cons y r =>
    simp only [AddsG] at hadd ⊢
    rw [← hl] at hadd ⊢
    refine Gs.go U rfl (fun w hw => born_step Wg h nb w) ?_
    simp only [c88, Try.f88, Option.getD_some]
    repeat (first
      | refine Gs.seq U ?_
      | refine Gs.regionEnd U ?_
      | (refine Gs.region U ?_; simp only [List.size_toArray, List.length_cons, List.length_nil, Nat.reduceAdd, Nat.zero_add, List.range, List.range.loop])
      | (refine Gs.go U rfl (fun w hw => stepG_defer rfl rfl (by k_ne) rfl) ?_; walk_nrm))
    apply Gs.read U rfl rfl (by k_ne)
    case hr => intro w hw; have hex := hw.half; go_simp; (try rfl)
    case he =>
      intro w hw
      have hex := hw.half
      refine ⟨rfl, fun e he => ?_⟩
      have hm := mem_listed he
      simp [go_sem, hex] at hm
      subst hm
      exact ⟨okK_read _ g.hh, by simp, by simp⟩
    walk_nrm
    repeat (first
      | refine Gs.block U ?_
      | refine Gs.regionEnd U ?_
      | (apply Gs.val U rfl rfl (by k_ne); (case hr => intro w hw; go_simp; (try simp only [hwx, hmx, hwp]); (try rfl)); (case he => intro w hw; simp [go_sem, hlt, hp0]); walk_nrm; (try simp only [hwx, hmx, hwp])))
    refine Gs.loop U ?_
    exact hadd _ ⟨_, rfl, rfl, rfl, rfl, rfl, rfl⟩
end
end Go.Proofs.Ytnikfjfcbpeieaa.Lk
end
section
namespace Go.Proofs.Ytnikfjfcbpeieaa.Lk
open Go Go.Conc Go.RowKit
open Go.ConcR (KK wgBlock WgAt stA smA rd wr mk)
open Go.ConcR.Gen
set_option linter.unusedVariables false
set_option linter.unusedSimpArgs false

noncomputable def c68 : Code := Try.f68.body.getD .skip
def cL : Code → Code | .seq a _ => a | c => c
def cReg : Code → Array Oper | .region _ ops _ => ops | _ => #[]
noncomputable def ops3 : Array Oper := cReg (cL (cL (cR (cR (cR c68)))))
theorem e35 : Try.prog.underlying 35 = some (.slice (Try.prog.elem 35)) := by kernel_rfl
theorem e35' : Try.prog.elem 35 = 5 := by kernel_rfl
theorem run_s1 {A : Option Addr} {n cap k : Nat} (h : k ≤ cap) (w : World) : (Instr.sliceAt 35 (.slice A n cap) none (some (.int .i64 k)) none).run Try.prog w = .ok (sliced A 0 k cap 1) w := by
  rw [run_sliceAt_slice (h := e35), run_slice_h (ht := e35) (h0 := by omega) (h2 := by omega), e35', Try.sizeOf5]
  simp [Result.andThen]
theorem run_s2 {A : Option Addr} {n cap k : Nat} (h : k ≤ n) (w : World) : (Instr.sliceAt 35 (.slice A n cap) (some (.int .i64 k)) none none).run Try.prog w = .ok (sliced A k n cap 1) w := by
  rw [run_sliceAt_slice (h := e35), run_slice_l (ht := e35) (h0 := by omega) (h1 := by omega), e35', Try.sizeOf5]
  simp [Result.andThen]
theorem ev_s1 {A : Option Addr} {n cap k : Nat} (h : k ≤ cap) (w : World) (es : Array Event) : (Instr.sliceAt 35 (.slice A n cap) none (some (.int .i64 k)) none).events Try.prog w es = es := by
  simp [Instr.sliceAt, Instr.slice, Instr.sliceBounds, Instr.sliceBound, go_sem, h]
theorem ev_s2 {A : Option Addr} {n cap k : Nat} (h : k ≤ n) (w : World) (es : Array Event) : (Instr.sliceAt 35 (.slice A n cap) (some (.int .i64 k)) none none).events Try.prog w es = es := by
  simp [Instr.sliceAt, Instr.slice, Instr.sliceBounds, Instr.sliceBound, go_sem, h]
/-- The two halves. -/
def V1 (A : Option Addr) (k cap : Nat) : Value := .slice A k cap
def V2 (A : Option Addr) (n k cap : Nat) : Value := .slice (if cap = k then A else A.map (·.add k)) (n - k) (cap - k)
def oA (A : Option Addr) (n k cap : Nat) : Obj := .cells #[V1 A k cap, V2 A n k cap] 35

theorem opC_of {P : Program} {R : World → World → Prop} {D : World → World → Array Event → Prop} {fn : FuncId} {ops : Array Oper} {i : Nat} {o : Oper} {K : Act → World → Prop} {a : Act} {w : World} (hi : ops[i]? = some o) (hw : Region.wanted o (yielded ops a.tmps) = true)
    (h : ∀ w₁, R w w₁ → ∃ v w', (execOp a.eval o).run P w₁ = .ok (.value v) w' ∧ D w₁ w' (listed P fn a o w₁) ∧ K (a.put o.dst v) w') : OpC P R D fn ops i K a w := by
  unfold OpC
  simp only [hi, hw, if_true]
  intro w₁ h₁
  obtain ⟨v, w', e, d, k⟩ := h w₁ h₁
  rw [e]
  exact ⟨d, k⟩
set_option maxRecDepth 100000 in
set_option maxHeartbeats 4000000 in
theorem reg3 {D : World → World → Array Event → Prop} (hD : ∀ w w', D w w' #[]) {A : Option Addr} {n k cap nb Wg : Nat} (hk : n / 2 = k) (hn : n ≤ cap) (hs : n ≤ 1000000000) {Q : Exit → Act → World → Prop} (w : World)
    (hQR : ∀ a x y, Q .normal a x → AtRel x y → Q .normal a y)
    (hQ : ∀ d, Q .normal ⟨#[.slice A n cap, undef, .int .u8 0, .pointer (some ⟨nb, 0, none⟩), .pointer (some ⟨Wg, 0, none⟩), undef, undef, .slice A n cap, .slice A n cap, .int .i64 n, .int .i64 (k : Nat), V1 A k cap, .slice A n cap, .slice A n cap, .int .i64 n, .int .i64 (k : Nat), V2 A n k cap, .slice (some ⟨w.heap.size, 0, none⟩) 2 2, .int .i64 2, .int .i64 0, undef, undef, undef, undef, undef, undef, undef, undef, undef], []⟩ ((w.alloc (oA A n k cap)).at d)) :
    (Code.region 3 ops3 true).wpC Try.prog true AtRel D 68 (ops3.size + 1 + 1) Q ⟨#[.slice A n cap, undef, .int .u8 0, .pointer (some ⟨nb, 0, none⟩), .pointer (some ⟨Wg, 0, none⟩), undef, undef, undef, undef, undef, undef, undef, undef, undef, undef, undef, undef, undef, undef, undef, undef, undef, undef, undef, undef, undef, undef, undef, undef], []⟩ w := by
  have T : Terms AtRel D := ⟨atRel_trans, fun w => hD w w⟩
  have h0 : (0 : Int) ≤ (k : Int) := by omega
  have h1 : (k : Int) ≤ (n : Int) := by omega
  have h2 : (k : Int) ≤ (cap : Int) := by omega
  have hq : Int.tdiv (n : Int) 2 = (k : Int) := by rw [Int.tdiv_eq_ediv_of_nonneg (by omega)]; omega
  have hw : IntKind.i64.wrap (k : Int) = (k : Int) := by rw [IntKind.wrap_i64]; omega
  have ht : ((k : Int)).toNat = k := by omega
  refine wpC_region_held (S := fun _ => True) T (fun w => hD _ _) (by kernel_rfl) fun w₁ h₁ => ?_
  obtain ⟨d0, rfl⟩ := h₁
  simp only [ops3, cReg, cL, cR, c68, Try.f68, Option.getD_some]
  refine anyCH_take T (i := 0) (v := .slice A n cap) (fun _ _ h _ => h) hQR rfl (by kernel_rfl) (by kernel_rfl) (by kernel_rfl) (.inl ⟨rfl, fun w _ => ⟨by go_simp; (try simp only [hq, hw]); (try simp only [V1, V2, sliced, Result.andThen]); (try rfl), by rw [listed_nil (by simp [go_sem, hq, hw])]; exact hD _ _⟩⟩) trivial ?_
  walk_nrm
  refine anyCH_take T (i := 1) (v := .slice A n cap) (fun _ _ h _ => h) hQR rfl (by kernel_rfl) (by kernel_rfl) (by kernel_rfl) (.inl ⟨rfl, fun w _ => ⟨by go_simp; (try simp only [hq, hw]); (try simp only [V1, V2, sliced, Result.andThen]); (try rfl), by rw [listed_nil (by simp [go_sem, hq, hw])]; exact hD _ _⟩⟩) trivial ?_
  walk_nrm
  refine anyCH_take T (i := 2) (v := .int .i64 n) (fun _ _ h _ => h) hQR rfl (by kernel_rfl) (by kernel_rfl) (by kernel_rfl) (.inl ⟨rfl, fun w _ => ⟨by go_simp; (try simp only [hq, hw]); (try simp only [V1, V2, sliced, Result.andThen]); (try rfl), by rw [listed_nil (by simp [go_sem, hq, hw])]; exact hD _ _⟩⟩) trivial ?_
  walk_nrm
  refine anyCH_take T (i := 3) (v := .int .i64 (k : Nat)) (fun _ _ h _ => h) hQR rfl (by kernel_rfl) (by kernel_rfl) (by kernel_rfl) (.inl ⟨rfl, fun w _ => ⟨by go_simp; (try simp only [hq, hw]); (try simp only [V1, V2, sliced, Result.andThen]); (try rfl), by rw [listed_nil (by simp [go_sem, hq, hw])]; exact hD _ _⟩⟩) trivial ?_
  walk_nrm
  refine anyCH_take T (i := 4) (v := V1 A k cap) (fun _ _ h _ => h) hQR rfl (by kernel_rfl) (by kernel_rfl) (by kernel_rfl) (.inl ⟨rfl, fun w _ => ⟨by go_simp; (try simp only [hq, hw, run_s1 (show k ≤ cap by omega)]); (try simp only [V1, V2, sliced, Result.andThen]); (try rfl), by rw [listed_nil (by simp [go_sem, hq, hw, ev_s1 (show k ≤ cap by omega)])]; exact hD _ _⟩⟩) trivial ?_
  walk_nrm
  refine anyCH_take T (i := 5) (v := .slice A n cap) (fun _ _ h _ => h) hQR rfl (by kernel_rfl) (by kernel_rfl) (by kernel_rfl) (.inl ⟨rfl, fun w _ => ⟨by go_simp; (try simp only [hq, hw]); (try simp only [V1, V2, sliced, Result.andThen]); (try rfl), by rw [listed_nil (by simp [go_sem, hq, hw])]; exact hD _ _⟩⟩) trivial ?_
  walk_nrm
  refine anyCH_take T (i := 6) (v := .slice A n cap) (fun _ _ h _ => h) hQR rfl (by kernel_rfl) (by kernel_rfl) (by kernel_rfl) (.inl ⟨rfl, fun w _ => ⟨by go_simp; (try simp only [hq, hw]); (try simp only [V1, V2, sliced, Result.andThen]); (try rfl), by rw [listed_nil (by simp [go_sem, hq, hw])]; exact hD _ _⟩⟩) trivial ?_
  walk_nrm
  refine anyCH_take T (i := 7) (v := .int .i64 n) (fun _ _ h _ => h) hQR rfl (by kernel_rfl) (by kernel_rfl) (by kernel_rfl) (.inl ⟨rfl, fun w _ => ⟨by go_simp; (try simp only [hq, hw]); (try simp only [V1, V2, sliced, Result.andThen]); (try rfl), by rw [listed_nil (by simp [go_sem, hq, hw])]; exact hD _ _⟩⟩) trivial ?_
  walk_nrm
  refine anyCH_take T (i := 8) (v := .int .i64 (k : Nat)) (fun _ _ h _ => h) hQR rfl (by kernel_rfl) (by kernel_rfl) (by kernel_rfl) (.inl ⟨rfl, fun w _ => ⟨by go_simp; (try simp only [hq, hw]); (try simp only [V1, V2, sliced, Result.andThen]); (try rfl), by rw [listed_nil (by simp [go_sem, hq, hw])]; exact hD _ _⟩⟩) trivial ?_
  walk_nrm
  refine anyCH_take T (i := 9) (v := V2 A n k cap) (fun _ _ h _ => h) hQR rfl (by kernel_rfl) (by kernel_rfl) (by kernel_rfl) (.inl ⟨rfl, fun w _ => ⟨by go_simp; (try simp only [hq, hw, run_s2 (show k ≤ n by omega)]); (try simp only [V1, V2, sliced, Result.andThen]); (try rfl), by rw [listed_nil (by simp [go_sem, hq, hw, ev_s2 (show k ≤ n by omega)])]; exact hD _ _⟩⟩) trivial ?_
  walk_nrm
  refine anyCH_take T (i := 12) (v := .int .i64 0) (fun _ _ h _ => h) hQR rfl (by kernel_rfl) (by kernel_rfl) (by kernel_rfl) (.inl ⟨rfl, fun w _ => ⟨by go_simp; (try simp only [hq, hw]); (try simp only [V1, V2, sliced, Result.andThen]); (try rfl), by rw [listed_nil (by simp [go_sem, hq, hw])]; exact hD _ _⟩⟩) trivial ?_
  walk_nrm
  refine anyCH_all (rs := [10]) (by kernel_rfl) (by simp) fun i hi => ?_
  obtain rfl : i = 10 := by simpa using hi
  refine opC_of rfl rfl fun w₁ h₁ => ?_
  obtain ⟨d1, rfl⟩ := h₁
  refine ⟨.slice (some ⟨w.heap.size, 0, none⟩) 2 2, (w.alloc (oA A n k cap)).at d1, by go_simp; (try rfl), by rw [listed_nil (by simp [go_sem, V1, V2])]; exact hD _ _, trivial, ?_⟩
  walk_nrm
  refine anyCH_take T (i := 11) (v := .int .i64 2) (fun _ _ h _ => h) hQR rfl (by kernel_rfl) (by kernel_rfl) (by kernel_rfl) (.inl ⟨rfl, fun w _ => ⟨by go_simp; (try simp only [hq, hw]); (try simp only [V1, V2, sliced, Result.andThen]); (try rfl), by rw [listed_nil (by simp [go_sem, hq, hw])]; exact hD _ _⟩⟩) trivial ?_
  walk_nrm
  exact anyCH_done (by kernel_rfl) (hQ d1) _
end Go.Proofs.Ytnikfjfcbpeieaa.Lk
end
section
namespace Go.Proofs.Ytnikfjfcbpeieaa.Lk
open Go Go.Conc
open Go.ConcR (KK wgBlock WgAt stA smA rd wr mk)
set_option linter.unusedVariables false
set_option linter.unusedSimpArgs false

/-- 's' blocks more than the four that were there when the first worker was started. -/
structure FM (W : World) (A : Option Addr) (n k cap s : Nat) (o : Value) (w : World) : Prop where
  kp : Kp W.heap.size W w
  size : w.heap.size = W.heap.size + 4 + s
  arr : w.heap[W.heap.size + 2]? = some (oA A n k cap)
  h1 : w.heap[W.heap.size + 3]? = some (.cells #[V1 A k cap] 35)
  h2 : s = 1 → w.heap[W.heap.size + 4]? = some (.cells #[o] 35)
  live : Live (W.heap.size + 1) w
  cnt : Cnt W.heap.size w
section
variable {S : Nat → Prop} {Low : Nat → Nat} {W : World} {A : Option Addr} {n k cap s j : Nat} {o : Value} {w w₁ : World}
theorem FM.rely (h : FM W A n k cap s o w) (r : RM (W.heap.size + 1) W.heap.size w w₁) : FM W A n k cap s o w₁ :=
  ⟨h.kp.trans (r.kp (by omega) (by omega)), r.size.trans h.size, (r.block _ (by omega) (by omega)).trans h.arr, (r.block _ (by omega) (by omega)).trans h.h1, fun e => (r.block _ (by omega) (by omega)).trans (h.h2 e), r.live h.live, r.cnt h.cnt⟩
theorem FM.rule : MRule (W.heap.size + 1) (RM (W.heap.size + 1) W.heap.size) (DM S (W.heap.size + 1) W.heap.size Low j) (FM W A n k cap s o) := by
  have kpr : ∀ w : World, Kp (Low (j - 1)) w w := fun w => ⟨rfl, rfl, rfl, Nat.le_refl _, fun _ _ => rfl⟩
  refine ⟨⟨fun w w₁ h r => h.rely r, fun w h => ⟨kpr w, by simp⟩⟩, fun w h => h.live, fun w v h => h.rely (RM.of_wg (Go.Conc.aside_setCell w (stA (W.heap.size + 1)) _) (live_st h.live v) (by omega)), fun w v h => h.rely (RM.of_wg (Go.Conc.aside_setCell w (smA (W.heap.size + 1)) _) (live_sm h.live v) (by omega)), fun w h => ⟨kpr w, fun e he => ?_⟩, fun w h => ⟨kpr w, fun e he => ?_⟩⟩
  all_goals
    rw [Array.mem_singleton] at he
    subst he
    refine ⟨⟨fun y hy => ?_, by simp [MemAct.ofEvent], ?_⟩, by simp, by simp⟩
    · simp only [MemAct.ofEvent, MemAct.touch?, Option.some.injEq] at hy
      subst hy
      exact .inl ⟨⟨_, rfl, .inl rfl⟩, by simp⟩
    · show W.heap.size + 1 < w.heap.size
      have := h.size
      omega
end
end Go.Proofs.Ytnikfjfcbpeieaa.Lk
namespace Go.Proofs.Ytnikfjfcbpeieaa.Lk
open Go Go.Conc
section
variable {P : Program} {main : Bool} {R : World → World → Prop} {D : World → World → Array Event → Prop} {Stop : Goroutine → World → Prop} {F F' : World → Prop} {b : Frame} {a : Act} {k : List Item} {cs : List Frame} {ops : Array Oper} {i : Nat} {rest : List Nat}
/-- An operation that yields a value and turns the world. -/
theorem Gs.turn {o : Oper} {v : Value} (U : Rule R D F) (t : World → World) (ho : ops[i]? = some o) (hw : Region.wanted o (yielded ops a.tmps) = true) (hk : b.kind ≠ .early)
    (hr : ∀ w, F w → (execOp a.eval o).run P w = .ok (.value v) (t w)) (hd : ∀ w, F w → D w (t w) (listed P b.fn a o w)) (hf : ∀ w, F w → F' (t w))
    (h : Gs P main R D Stop F' (G (b.at (a.put o.dst v) (.inRegion ops rest :: k)) cs)) : Gs P main R D Stop F (G (b.at a (.inRegion ops (i :: rest) :: k)) cs) :=
  Gs.step U rfl (fun w hF => ⟨t w, _, stepG_value ho hw hk (hr w hF), hd w hF, hf w hF⟩) h
/-- .. that yields nothing. -/
theorem Gs.turn0 {o : Oper} (U : Rule R D F) (t : World → World) (ho : ops[i]? = some o) (hw : Region.wanted o (yielded ops a.tmps) = true) (hk : b.kind ≠ .early)
    (hr : ∀ w, F w → (execOp a.eval o).run P w = .ok .skip (t w)) (hd : ∀ w, F w → D w (t w) (listed P b.fn a o w)) (hf : ∀ w, F w → F' (t w))
    (h : Gs P main R D Stop F' (G (b.at (a.put o.dst undef) (.inRegion ops rest :: k)) cs)) : Gs P main R D Stop F (G (b.at a (.inRegion ops (i :: rest) :: k)) cs) :=
  Gs.step U rfl (fun w hF => ⟨t w, _, stepG_none ho hw hk (hr w hF), hd w hF, hf w hF⟩) h
end
end Go.Proofs.Ytnikfjfcbpeieaa.Lk
namespace Go.Proofs.Ytnikfjfcbpeieaa.Lk
open Go Go.Conc
open Go.ConcR (KK wgBlock WgAt stA smA rd wr mk)
section
variable {S : Nat → Prop} {Low : Nat → Nat} {W : World} {A : Option Addr} {n k cap s j : Nat} {o : Value} {w w₁ : World}
theorem alloc_size (w : World) (ob : Obj) : (w.alloc ob).heap.size = w.heap.size + 1 := Array.size_push _
theorem alloc_old (w : World) (ob : Obj) {b : Nat} (h : b < w.heap.size) : (w.alloc ob).heap[b]? = w.heap[b]? := by
  unfold World.alloc
  rw [Array.getElem?_push_lt h, Array.getElem?_eq_getElem h]
theorem alloc_new (w : World) (ob : Obj) {b : Nat} (h : w.heap.size = b) : (w.alloc ob).heap[b]? = some ob := by
  subst h
  unfold World.alloc
  exact Array.getElem?_push_size
theorem kp_alloc (w : World) (ob : Obj) {m : Nat} (h : m ≤ w.heap.size) : Kp m w (w.alloc ob) := ⟨rfl, rfl, rfl, by rw [alloc_size]; omega, fun b hb => alloc_old w ob (by omega)⟩
theorem FM.alloc (h : FM W A n k cap 0 o w) (v : Value) : FM W A n k cap 1 v (w.alloc (.cells #[v] 35)) := by
  have hs := h.size
  have old : ∀ b, b < W.heap.size + 4 → (w.alloc (.cells #[v] 35)).heap[b]? = w.heap[b]? := fun b hb => alloc_old w _ (by omega)
  refine ⟨h.kp.trans (kp_alloc w _ (by omega)), by rw [alloc_size]; omega, (old _ (by omega)).trans h.arr, (old _ (by omega)).trans h.h1, fun _ => alloc_new w _ (by omega), ?_, ?_⟩
  · obtain ⟨st, sm, h⟩ := h.live
    exact ⟨st, sm, (old _ (by omega)).trans h⟩
  · obtain ⟨c, h⟩ := h.cnt
    exact ⟨c, (old _ (by omega)).trans h⟩
theorem cell_set {v v' : Value} {b : Nat} (h : w.heap[b]? = some (.cells #[v] 35)) : (w.setCell ⟨b, 0, none⟩ v').heap[b]? = some (.cells #[v'] 35) := by
  obtain ⟨hlt, he⟩ := Array.getElem?_eq_some_iff.1 h
  unfold World.setCell
  simp [hlt, Array.getElem_modify, he]
theorem FM.store {v : Value} (h : FM W A n k cap 1 v w) (v' : Value) : FM W A n k cap 1 v' (w.setCell ⟨W.heap.size + 4, 0, none⟩ v') := by
  have ha := Go.Conc.aside_setCell w ⟨W.heap.size + 4, 0, none⟩ v'
  have old : ∀ b, b < W.heap.size + 4 → (w.setCell ⟨W.heap.size + 4, 0, none⟩ v').heap[b]? = w.heap[b]? := fun b hb => ha.block b (Nat.ne_of_lt hb)
  refine ⟨h.kp.trans ⟨ha.tape, ha.os, ha.output, Nat.le_of_eq ha.size.symm, fun b hb => old b (by omega)⟩, ha.size.trans h.size, (old _ (by omega)).trans h.arr, (old _ (by omega)).trans h.h1, fun _ => cell_set (h.h2 rfl), ?_, ?_⟩
  · obtain ⟨st, sm, h⟩ := h.live
    exact ⟨st, sm, (old _ (by omega)).trans h⟩
  · obtain ⟨c, h⟩ := h.cnt
    exact ⟨c, (old _ (by omega)).trans h⟩
end
end Go.Proofs.Ytnikfjfcbpeieaa.Lk
end
section
namespace Go.Proofs.Ytnikfjfcbpeieaa.Lk
open Go Go.Conc
open Go.ConcR (KK wgBlock WgAt stA smA rd wr mk)
set_option linter.unusedVariables false
set_option linter.unusedSimpArgs false

/-- The argument: n bytes 'l' in blocks that stood at the call's beginning. -/
structure SPre (S : Nat → Prop) (W : World) (A : Option Addr) (n cap : Nat) (l : List Int) : Prop where
  hA : ∀ ad, A = some ad → ad.block < W.heap.size ∧ ¬ S ad.block
  nil : 0 < n → ∃ ad, A = some ad
  el : ∀ p ad, p < n → A = some ad → W.cell? (ad.add p) = some (.int .u8 (l.getD p 0))
  len : l.length = n
  cap : n ≤ cap
  small : n ≤ 1000000000
  range : ∀ x ∈ l, 0 ≤ x ∧ x < 256

section
variable {S : Nat → Prop} {Low : Nat → Nat} {W : World} {A : Option Addr} {n k cap s : Nat} {l : List Int} {o : Value} {w : World}

theorem SPre.gw0 (h : SPre S W A n cap l) (hS : ∀ b, S b → b < W.heap.size) (hL : Low 0 = W.heap.size + 4) (hk : k ≤ n) : GW S (W.heap.size + 1) W.heap.size (W.heap.size + 3) (Low 0) A k (l.take k) := by
  refine ⟨⟨by omega, by omega, by omega, fun x => by have := hS _ x; omega⟩, fun ad e => ?_, fun h0 => h.nil (by omega), by simp [h.len]; omega, by have := h.small; omega, fun x hx => h.range x (List.mem_of_mem_take hx)⟩
  obtain ⟨h1, h2⟩ := h.hA ad e
  exact ⟨by omega, by omega, by omega, h2⟩
theorem SPre.gw1 (h : SPre S W A n cap l) (hS : ∀ b, S b → b < W.heap.size) (hL : Low 1 = W.heap.size + 5) (hk : k ≤ n) : GW S (W.heap.size + 1) W.heap.size (W.heap.size + 4) (Low 1) (if cap = k then A else A.map (·.add k)) (n - k) (l.drop k) := by
  have hb : ∀ ad, (if cap = k then A else A.map (·.add k)) = some ad → ∃ a, A = some a ∧ a.block = ad.block := fun ad e => by
    split at e
    · exact ⟨ad, e, rfl⟩
    · obtain ⟨a, ha, rfl⟩ := Option.map_eq_some_iff.1 e
      exact ⟨a, ha, (add_block _ _).symm⟩
  refine ⟨⟨by omega, by omega, by omega, fun x => by have := hS _ x; omega⟩, fun ad e => ?_, fun h0 => ?_, by simp [h.len], by have := h.small; omega, fun x hx => h.range x (List.mem_of_mem_drop hx)⟩
  · obtain ⟨a, ha, hab⟩ := hb ad e
    obtain ⟨h1, h2⟩ := h.hA a ha
    rw [hab] at h1 h2
    exact ⟨by omega, by omega, by omega, h2⟩
  · obtain ⟨a, rfl⟩ := h.nil (by omega)
    split
    · exact ⟨a, rfl⟩
    · exact ⟨_, rfl⟩
theorem FM.old (h : FM W A n k cap s o w) {b : Nat} (hb : b < W.heap.size) : w.heap[b]? = W.heap[b]? := h.kp.block b hb
theorem SPre.kw0 (h : SPre S W A n cap l) (f : FM W A n k cap s o w) (hk : k ≤ n) : KW (W.heap.size + 1) W.heap.size (W.heap.size + 3) A k cap (l.take k) w := by
  refine ⟨by simp [World.cell?, f.h1, V1], fun p ad hp e => ?_, f.live, f.cnt⟩
  have h1 := h.el p ad (by omega) e
  have h2 := (h.hA ad e).1
  rw [World.cell?_of_block (f.old (by rw [add_block]; exact h2)), h1]
  simp [List.getD_eq_getElem?_getD, List.getElem?_take, hp]
theorem SPre.kw1 (h : SPre S W A n cap l) (f : FM W A n k cap 1 (V2 A n k cap) w) (hk : k ≤ n) : KW (W.heap.size + 1) W.heap.size (W.heap.size + 4) (if cap = k then A else A.map (·.add k)) (n - k) (cap - k) (l.drop k) w := by
  refine ⟨by simp [World.cell?, f.h2 rfl, V2], fun p ad hp e => ?_, f.live, f.cnt⟩
  have hc := h.cap
  rw [if_neg (by omega)] at e
  obtain ⟨a, ha, rfl⟩ := Option.map_eq_some_iff.1 e
  have h1 := h.el (k + p) a (by omega) ha
  have h2 := (h.hA a ha).1
  have e3 : (a.add k).add p = a.add (k + p) := by
    unfold Addr.add
    by_cases h1 : k = 0 <;> by_cases h2 : p = 0 <;> simp [h1, h2, Nat.add_assoc]
  rw [e3, World.cell?_of_block (f.old (by rw [add_block]; exact h2)), h1]
  simp [List.getD_eq_getElem?_getD]
end

/-- The two halves' bytes. -/
def halves (k : Nat) (l : List Int) (i : Nat) : List Int := if i = 0 then l.take k else l.drop k
theorem halves_sum (k : Nat) (l : List Int) : (halves k l 0).sum + (halves k l 1).sum = l.sum := by
  simp only [halves, if_true, Nat.one_ne_zero, if_false]
  rw [← List.sum_append, List.take_append_drop]
end Go.Proofs.Ytnikfjfcbpeieaa.Lk
end
