/- Region 7 of hash.Spread, whose order is drawn. -/
/- What hash.Spread asks first: isNumber, slices.ContainsFunc of mac.Right. Written by mkzc.py. -/
import Derived.Test.YtnikfjfcbpeieaaMH3
import Derived.Test.YtnikfjfcbpeieaaMXa
import Derived.Conc.CompanyDraw
import Derived.Laws.Slices
section
namespace Go.Proofs.Ytnikfjfcbpeieaa.Hk
open Go Go.Conc Go.RowKit Go.Proofs.Ytnikfjfcbpeieaa.Lk
open Go.ConcR.Gen
set_option linter.unusedVariables false
set_option linter.unusedSimpArgs false
noncomputable def c45 : Code := Try.f45.body.getD .skip
def cLl : Code → Code | .seq a _ => a | c => c
def cReg : Code → Array Oper | .region _ ops _ => ops | _ => #[]
noncomputable def ops7 : Array Oper := cReg (cLl (cLl (cR (cR (cR (cR c45))))))
theorem e57 : Try.prog.underlying 57 = some (.slice (Try.prog.elem 57)) := by kernel_rfl
theorem e57' : Try.prog.elem 57 = 3 := by kernel_rfl
theorem run_s1 {A : Option Addr} {n cap k : Nat} (h : k ≤ cap) (w : World) : (Instr.sliceAt 57 (.slice A n cap) none (some (.int .i64 k)) none).run Try.prog w = .ok (sliced A 0 k cap 1) w := by
 rw [run_sliceAt_slice (h := e57), run_slice_h (ht := e57) (h0 := by omega) (h2 := by omega), e57', Try.sizeOf3]
 simp [Result.andThen]
theorem run_s2 {A : Option Addr} {n cap k : Nat} (h : k ≤ n) (w : World) : (Instr.sliceAt 57 (.slice A n cap) (some (.int .i64 k)) none none).run Try.prog w = .ok (sliced A k n cap 1) w := by
 rw [run_sliceAt_slice (h := e57), run_slice_l (ht := e57) (h0 := by omega) (h1 := by omega), e57', Try.sizeOf3]
 simp [Result.andThen]
theorem ev_s1 {A : Option Addr} {n cap k : Nat} (h : k ≤ cap) (w : World) (es : Array Event) : (Instr.sliceAt 57 (.slice A n cap) none (some (.int .i64 k)) none).events Try.prog w es = es := by
 simp [Instr.sliceAt, Instr.slice, Instr.sliceBounds, Instr.sliceBound, go_sem, h]
theorem ev_s2 {A : Option Addr} {n cap k : Nat} (h : k ≤ n) (w : World) (es : Array Event) : (Instr.sliceAt 57 (.slice A n cap) (some (.int .i64 k)) none none).events Try.prog w es = es := by
 simp [Instr.sliceAt, Instr.slice, Instr.sliceBounds, Instr.sliceBound, go_sem, h]
def V1 (A : Option Addr) (k cap : Nat) : Value := .slice A k cap
def V2 (A : Option Addr) (n k cap : Nat) : Value := .slice (if cap = k then A else A.map (·.add k)) (n - k) (cap - k)
def oA (A : Option Addr) (n k cap : Nat) : Obj := .cells #[V1 A k cap, V2 A n k cap] 57
theorem opC_of {P : Program} {R : World → World → Prop} {D : World → World → Array Event → Prop} {fn : FuncId} {ops : Array Oper} {i : Nat} {o : Oper} {K : Act → World → Prop} {a : Act} {w : World} (hi : ops[i]? = some o) (hw : Region.wanted o (yielded ops a.tmps) = true)
  (h : ∀ w₁, R w w₁ → ∃ v w', (execOp a.eval o).run P w₁ = .ok (.value v) w' ∧ D w₁ w' (listed P fn a o w₁) ∧ K (a.put o.dst v) w') : OpC P R D fn ops i K a w := by
 unfold OpC
 simp only [hi, hw, if_true]
 intro w₁ h₁
 obtain ⟨v, w', e, d, k⟩ := h w₁ h₁
 rw [e]
 exact ⟨d, k⟩
def IsAt (X : World) (w : World) : Prop := ∃ d, w = X.at d
theorem isAt_rule {D : World → World → Array Event → Prop} (hD : ∀ w w' : World, w.heap.size ≤ w'.heap.size → D w w' #[]) (X : World) : Rule AtRel D (IsAt X) := ⟨fun w w₁ ⟨d, h⟩ ⟨d', h'⟩ => ⟨d', by rw [h', h]; rfl⟩, fun w _ => hD w w (Nat.le_refl _)⟩
section
variable {D : World → World → Array Event → Prop} {fn : FuncId} {ops : Array Oper} {Q : Exit → Act → World → Prop} {N fuel : Nat} {lst : Array Bool} {ρ : Rho} {a : Act} {w : World}
def HE (D : World → World → Array Event → Prop) (fn : FuncId) (ops : Array Oper) (Q : Exit → Act → World → Prop) (N fuel : Nat) (lst : Array Bool) (ρ : Rho) (a : Act) (w : World) : Prop :=
 a.defers = [] → a.tmps.size = N → Looks ρ a.tmps → AnyCH Try.prog AtRel D fn .any ops Q (fun _ => True) fuel lst a w
theorem HE.take (i : Nat) {oi : Oper} {v : Value} (hD : ∀ w w' : World, w.heap.size ≤ w'.heap.size → D w w' #[]) (hQR : ∀ a x y, Q .normal a x → AtRel x y → Q .normal a y) (hi : ops[i]? = some oi) (hs : Region.noSelect ops = true) (hf : Region.free .any ops lst i = true) (hr : (Region.ready .any ops lst).contains i = true)
  (hw : wantB ops ρ oi = some true) (hd : oi.dst.all (· < N) = true) (hrun : ∀ e : Operand → Value, (∀ x u, ev ρ x = some u → e x = u) → ∀ w : World, (execOp e oi).run Try.prog w = .ok (.value v) w ∧ (execOp e oi).events Try.prog w #[] = #[])
  (h : HE D fn ops Q N fuel (lst.setIfInBounds i true) (ρ.put oi.dst v) (a.put oi.dst v) w) : HE D fn ops Q N (fuel + 1) lst ρ a w := fun h0 hN hl => by
 obtain ⟨T, ds⟩ := a
 have h0 : ds = [] := h0
 subst h0
 have hN : T.size = N := hN
 exact anyCH_take (⟨atRel_trans, fun w => hD w w (Nat.le_refl _)⟩) (fun _ _ h _ => h) hQR hi hs hf hr (.inl ⟨hl.want hw, fun w _ => ⟨(hrun _ (fun x u e => hl.ev e) w).1, by rw [listed_nil (hrun _ (fun x u e => hl.ev e) w).2]; exact hD _ _ (Nat.le_refl _)⟩⟩) trivial
  (h (by rw [put_act]) (by rw [put_size]; exact hN) (hl.put (by rw [hN]; exact hd)))
theorem HE.one (i : Nat) {oi : Oper} {v : Value} (hi : ops[i]? = some oi) (hr : Region.ready .any ops lst = [i]) (hw : wantB ops ρ oi = some true) (hd : oi.dst.all (· < N) = true) (hD : ∀ w w' : World, w.heap.size ≤ w'.heap.size → D w w' #[])
  (hrun : ∀ e : Operand → Value, (∀ x u, ev ρ x = some u → e x = u) → ∀ w₁, AtRel w w₁ → ∃ w₂, (execOp e oi).run Try.prog w₁ = .ok (.value v) w₂ ∧ (execOp e oi).events Try.prog w₁ #[] = #[] ∧ w₁.heap.size ≤ w₂.heap.size ∧ HE D fn ops Q N fuel (lst.setIfInBounds i true) (ρ.put oi.dst v) (a.put oi.dst v) w₂) : HE D fn ops Q N (fuel + 1) lst ρ a w := fun h0 hN hl => by
 obtain ⟨T, ds⟩ := a
 have h0 : ds = [] := h0
 subst h0
 have hN : T.size = N := hN
 refine anyCH_all (rs := [i]) hr (by simp) fun i' hi' => ?_
 obtain rfl : i' = i := by simpa using hi'
 refine opC_of hi (hl.want hw) fun w₁ h₁ => ?_
 obtain ⟨w₂, r1, r2, rs, r3⟩ := hrun _ (fun x u e => hl.ev e) w₁ h₁
 exact ⟨v, w₂, r1, by rw [listed_nil r2]; exact hD _ _ rs, trivial, r3 (by rw [put_act]) (by rw [put_size]; exact hN) (hl.put (by rw [hN]; exact hd))⟩
end
theorem run_mv {e : Operand → Value} {o : Oper} {x : Operand} {v : Value} (hop : o.op = .move x) (he : e x = v) (w : World) : (execOp e o).run Try.prog w = .ok (.value v) w ∧ (execOp e o).events Try.prog w #[] = #[] := by
 rw [show execOp e o = pure (.value v) by simp [execOp, hop, he]]; exact ⟨rfl, rfl⟩
theorem len57 (A : Option Addr) (n cap : Nat) (w : World) : (Builtin.len_ #[57] 3 #[.slice A n cap]).run Try.prog w = .ok (.int .i64 n) w ∧ (Builtin.len_ #[57] 3 #[.slice A n cap]).events Try.prog w #[] = #[] := by
 constructor
 ·go_simp
 ·simp [go_sem]
theorem len109 (A : Option Addr) (n cap : Nat) (w : World) : (Builtin.len_ #[109] 3 #[.slice A n cap]).run Try.prog w = .ok (.int .i64 n) w ∧ (Builtin.len_ #[109] 3 #[.slice A n cap]).events Try.prog w #[] = #[] := by
 constructor
 ·go_simp
 ·simp [go_sem]
theorem run_ln {e : Operand → Value} {o : Oper} {x : Operand} {A : Option Addr} {n cap : Nat} {t : TypeId} (hu : ∀ w : World, (Builtin.len_ #[t] 3 #[.slice A n cap]).run Try.prog w = .ok (.int .i64 n) w ∧ (Builtin.len_ #[t] 3 #[.slice A n cap]).events Try.prog w #[] = #[]) (hop : o.op = .call { callee := .builtin .len, args := #[x], argTypes := #[t] }) (ht : o.type = 3) (he : e x = .slice A n cap) (w : World) : (execOp e o).run Try.prog w = .ok (.value (.int .i64 n)) w ∧ (execOp e o).events Try.prog w #[] = #[] := by
 obtain ⟨h1, h2⟩ := hu w
 constructor
 ·simp [execOp, hop, go_sem, he, ht, h1, Result.andThen]
 ·simp [execOp, hop, go_sem, he, ht, h1, h2, Result.evThen]
theorem run_qu {e : Operand → Value} {o : Oper} {x : Operand} {n k : Nat} (hop : o.op = .binOp .quo 3 x (.const (.int .i64 2)) 3) (he : e x = .int .i64 n) (hc : e (.const (.int .i64 2)) = .int .i64 2) (hk : n / 2 = k) (hs : n ≤ 1000000000) (w : World) : (execOp e o).run Try.prog w = .ok (.value (.int .i64 (k : Nat))) w ∧ (execOp e o).events Try.prog w #[] = #[] := by
 have hq : Int.tdiv (n : Int) 2 = (k : Int) := by rw [Int.tdiv_eq_ediv_of_nonneg (by omega)]; omega
 have hw : IntKind.i64.wrap (k : Int) = (k : Int) := by rw [IntKind.wrap_i64]; omega
 constructor <;> simp [execOp, hop, he, hc, eqGuard, binOp, go_sem, Op.intArith, hq, hw]
theorem run_sl {e : Operand → Value} {o : Oper} {x : Operand} {lo hi : Option Operand} {u v : Value} {vl vh : Option Value} (hop : o.op = .slice 57 x lo hi none) (he : e x = u) (hl : lo.map e = vl) (hh : hi.map e = vh) (hr : ∀ w, (Instr.sliceAt 57 u vl vh none).run Try.prog w = .ok v w) (hev : ∀ w, (Instr.sliceAt 57 u vl vh none).events Try.prog w #[] = #[]) (w : World) :
  (execOp e o).run Try.prog w = .ok (.value v) w ∧ (execOp e o).events Try.prog w #[] = #[] := by
 have e1 : execOp e o = (do Pure.pure (Next.value (← Instr.sliceAt 57 u vl vh none))) := by simp only [execOp, hop, he, hl, hh, Option.map_none]
 rw [e1]
 constructor
 ·simp [hr w, Result.andThen]
 ·simp [hr w, hev w, Result.evThen]
def put7 (A : Option Addr) (m k cap arr : Nat) : List (Nat × Value) := [(21, .slice A m cap), (22, .slice A m cap), (23, .int .i64 m), (24, .int .i64 (k : Nat)), (25, sliced A 0 k cap 1), (26, .slice A m cap), (27, .slice A m cap), (28, .int .i64 m), (29, .int .i64 (k : Nat)), (30, sliced A k m cap 1), (33, .int .i64 0), (31, .slice (some ⟨arr, 0, none⟩) 2 2), (32, .int .i64 2)]
theorem sl1 (A : Option Addr) (k cap : Nat) : sliced A 0 k cap 1 = V1 A k cap := by unfold sliced V1; cases A <;> simp [Addr.add]
theorem sl2 (A : Option Addr) (m k cap : Nat) : sliced A k m cap 1 = V2 A m k cap := by unfold sliced V2; simp
set_option maxRecDepth 100000 in
set_option maxHeartbeats 4000000 in
theorem reg7 {D : World → World → Array Event → Prop} (hD : ∀ w w' : World, w.heap.size ≤ w'.heap.size → D w w' #[]) {A : Option Addr} {m k cap : Nat} (hk : m / 2 = k) (hn : m ≤ cap) (hs : m ≤ 1000000000) {Q : Exit → Act → World → Prop} (w : World) (T : Array Value) (hT : T.size = 45) (hl : T[0]? = some (.slice A m cap))
  (hQR : ∀ a x y, Q .normal a x → AtRel x y → Q .normal a y)
  (hQ : ∀ d, Q .normal ((put7 A m k cap w.heap.size).foldl (fun a x => a.put (some x.1) x.2) ⟨T, []⟩) ((w.alloc (oA A m k cap)).at d)) :
  (Code.region 7 ops7 true).wpC Try.prog true AtRel D 45 (ops7.size + 1 + 1) Q ⟨T, []⟩ w := by
 refine wpC_region_held (S := fun _ => True) ⟨atRel_trans, fun w => hD w w (Nat.le_refl _)⟩ (fun w => hD _ _ (Nat.le_refl _)) (by kernel_rfl) fun w₁ h₁ => ?_
 obtain ⟨d0, rfl⟩ := h₁
 have key : HE D 45 ops7 Q 45 ops7.size (Array.replicate ops7.size false) [(0, .slice A m cap)] ⟨T, []⟩ { w.at d0 with drawn := (w.at d0).drawn + 1 } := by
  simp only [ops7, cReg, cLl, cR, c45, Try.f45, Option.getD_some]
  refine HE.take 0 hD hQR rfl (by kernel_rfl) (by kernel_rfl) (by kernel_rfl) rfl rfl (fun e he => run_mv rfl (he _ _ rfl)) ?_
  refine HE.take 1 hD hQR rfl (by kernel_rfl) (by kernel_rfl) (by kernel_rfl) rfl rfl (fun e he => run_mv rfl (he _ _ rfl)) ?_
  refine HE.take 2 hD hQR rfl (by kernel_rfl) (by kernel_rfl) (by kernel_rfl) rfl rfl (fun e he => run_ln (len57 _ _ _) rfl rfl (he _ _ rfl)) ?_
  refine HE.take 3 hD hQR rfl (by kernel_rfl) (by kernel_rfl) (by kernel_rfl) rfl rfl (fun e he => run_qu rfl (he _ _ rfl) (he _ _ rfl) hk hs) ?_
  refine HE.take 4 hD hQR rfl (by kernel_rfl) (by kernel_rfl) (by kernel_rfl) rfl rfl (fun e he => run_sl rfl (he _ _ rfl) rfl (congrArg some (he (.tmp 24) _ rfl)) (run_s1 (show k ≤ cap by omega)) (fun w => ev_s1 (show k ≤ cap by omega) w _)) ?_
  refine HE.take 5 hD hQR rfl (by kernel_rfl) (by kernel_rfl) (by kernel_rfl) rfl rfl (fun e he => run_mv rfl (he _ _ rfl)) ?_
  refine HE.take 6 hD hQR rfl (by kernel_rfl) (by kernel_rfl) (by kernel_rfl) rfl rfl (fun e he => run_mv rfl (he _ _ rfl)) ?_
  refine HE.take 7 hD hQR rfl (by kernel_rfl) (by kernel_rfl) (by kernel_rfl) rfl rfl (fun e he => run_ln (len57 _ _ _) rfl rfl (he _ _ rfl)) ?_
  refine HE.take 8 hD hQR rfl (by kernel_rfl) (by kernel_rfl) (by kernel_rfl) rfl rfl (fun e he => run_qu rfl (he _ _ rfl) (he _ _ rfl) hk hs) ?_
  refine HE.take 9 hD hQR rfl (by kernel_rfl) (by kernel_rfl) (by kernel_rfl) rfl rfl (fun e he => run_sl rfl (he _ _ rfl) (congrArg some (he (.tmp 29) _ rfl)) rfl (run_s2 (show k ≤ m by omega)) (fun w => ev_s2 (show k ≤ m by omega) w _)) ?_
  refine HE.take 12 hD hQR rfl (by kernel_rfl) (by kernel_rfl) (by kernel_rfl) rfl rfl (fun e he => run_mv rfl (he _ _ rfl)) ?_
  refine HE.one 10 (v := .slice (some ⟨w.heap.size, 0, none⟩) 2 2) rfl (by kernel_rfl) rfl rfl hD fun e he w₁ h₁ => ?_
  obtain ⟨d1, rfl⟩ := h₁
  have t25 := he (.tmp 25) _ rfl
  have t30 := he (.tmp 30) _ rfl
  refine ⟨(w.alloc (oA A m k cap)).at d1, ?_, ?_, ?_, ?_⟩
  ·simp only [execOp, List.map_toArray, List.map_cons, List.map_nil, t25, t30, sl1, sl2, V1, V2, oA]
   go_simp
   exact ⟨rfl, rfl⟩
  ·simp only [execOp, List.map_toArray, List.map_cons, List.map_nil, t25, t30, sl1, sl2, V1, V2]
   simp [go_sem, t25, t30, sl1, sl2, V1, V2]
  ·exact Nat.le_of_lt (Nat.lt_of_lt_of_eq (Nat.lt_succ_self w.heap.size) (Array.size_push ..).symm)
  refine HE.take 11 (v := .int .i64 2) hD hQR rfl (by kernel_rfl) (by kernel_rfl) (by kernel_rfl) rfl rfl (fun e he => run_ln (n := 2) (len109 _ _ _) rfl rfl (he (.tmp 31) (.slice (some ⟨w.heap.size, 0, none⟩) 2 2) rfl)) ?_
  intro h0 hN hl
  exact anyCH_done (by kernel_rfl) (hQ d1) _
 refine key rfl hT (fun i v e => ?_)
 simp only [Rho.get] at e
 split at e
 ·rename_i h; subst h; rw [← e]; exact hl
 ·cases e
end Go.Proofs.Ytnikfjfcbpeieaa.Hk
end
section
namespace Go.Proofs.Ytnikfjfcbpeieaa.Hk
open Go Go.Conc Go.RowKit Go.Proofs.Ytnikfjfcbpeieaa.Lk
open Go.ConcR.Gen
set_option linter.unusedVariables false
set_option linter.unusedSimpArgs false
theorem nm71 : (Try.f71.name == "runtime.NumGoroutine") = false := by kernel_rfl
noncomputable def c71 : Code := Try.f71.body.getD .skip
theorem body71 : Try.f71.body = some c71 := rfl
theorem nm72 : (Try.f72.name == "runtime.NumGoroutine") = false := by kernel_rfl
noncomputable def c72 : Code := Try.f72.body.getD .skip
theorem body72 : Try.f72.body = some c72 := rfl
theorem nm91 : (Try.f91.name == "runtime.NumGoroutine") = false := by kernel_rfl
noncomputable def c91 : Code := Try.f91.body.getD .skip
theorem body91 : Try.f91.body = some c91 := rfl
theorem bool_geq (a c : Int) : binOp .geq 3 (.int .i64 a) (.int .i64 c) = pure (.bool (decide (c ≤ a))) := rfl
theorem bool_leq (a c : Int) : binOp .leq 3 (.int .i64 a) (.int .i64 c) = pure (.bool (decide (a ≤ c))) := rfl
theorem bool_eql (a c : Int) : binOp .eql 3 (.int .i64 a) (.int .i64 c) = pure (.bool (decide (a = c))) := by
 show (pure (Value.bool (a == c)) : Sem Value) = _
 rw [Bool.beq_eq_decide_eq]
def numB (n : Int) : Bool := decide (1 ≤ n) && decide (n ≤ 16) && decide (bits .and .i64 n (IntKind.i64.wrap (n - 1)) = 0)
def rightB (a : Int) : Bool := decide (0 ≤ a) && decide (a ≤ 281474976710655)
section
variable {main : Bool} {R : World → World → Prop} {D : World → World → Array Event → Prop} {Stop : Goroutine → World → Prop} {F : World → Prop} {cs : List Frame} {b₀ : Frame} {a₀ : Act} {ops₀ : Array Oper} {i₀ : Nat} {rest₀ : List Nat} {k₀ : List Item}
set_option maxRecDepth 100000 in
set_option maxHeartbeats 8000000 in
theorem number_walk (U : Rule R D F) {n : Int} (hT : Gs Try.prog main R D Stop F (G (b₀.at (a₀.put ((ops₀[i₀]?).bind (·.dst)) (.bool (numB n))) (.inRegion ops₀ rest₀ :: k₀)) cs)) :
  Gs Try.prog main R D Stop F (G ((base 70).at ⟨#[.int .i64 n] ++ Array.replicate 15 undef, []⟩ [.code c70]) (b₀.at a₀ (.inRegion ops₀ (i₀ :: rest₀) :: k₀) :: cs)) := by
 refine (?_ : GE Try.prog main R D Stop F (base 70) _ 16 [] [(0, .int .i64 n)] [.code c70]) _ (by simp) (looks1 _ _)
 simp only [c70, Try.f70, Option.getD_some]
 obtain ⟨b1, h1⟩ : ∃ b, decide (1 ≤ n) = b := ⟨_, rfl⟩
 obtain ⟨b2, h2⟩ : ∃ b, decide (n ≤ 16) = b := ⟨_, rfl⟩
 obtain ⟨b3, h3⟩ : ∃ b, decide (bits .and .i64 n (IntKind.i64.wrap (n - 1)) = 0) = b := ⟨_, rfl⟩
 have g1 := bool_geq n 1
 have g2 := bool_leq n 16
 have g3 := bool_eql (bits .and .i64 n (IntKind.i64.wrap (n - 1))) 0
 rw [h1] at g1
 rw [h2] at g2
 rw [h3] at g3
 unfold numB at hT
 rw [h1, h2, h3] at hT
 cases b1 <;> cases b2 <;> cases b3
 all_goals
  repeat (first
   | refine GE.bin (op := .geq) U rfl rfl rfl (by k_ne) rfl rfl rfl g1 ?_
   | refine GE.bin (op := .leq) U rfl rfl rfl (by k_ne) rfl rfl rfl g2 ?_
   | refine GE.bin (op := .eql) U rfl rfl rfl (by k_ne) rfl rfl rfl g3 ?_
   | refine GE.mv U rfl rfl rfl (by k_ne) rfl rfl ?_
   | refine GE.bin U rfl rfl rfl (by k_ne) rfl rfl rfl rfl ?_
   | refine GE.as U rfl rfl rfl (by k_ne) rfl rfl ?_
   | refine GE.regionEnd U ?_
   | refine GE.seq U ?_
   | refine GE.region _ U rfl ?_
   | refine GE.unwanted U rfl rfl rfl ?_
   | refine GE.pick U rfl rfl rfl (by k_ne) rfl rfl rfl ?_)
  exact GE.ret1 U rfl Try.func70 rfl rfl hT
set_option maxRecDepth 100000 in
set_option maxHeartbeats 8000000 in
theorem rightB_walk (U : Rule R D F) {a : Int} (hT : Gs Try.prog main R D Stop F (G (b₀.at (a₀.put ((ops₀[i₀]?).bind (·.dst)) (.bool (rightB a))) (.inRegion ops₀ rest₀ :: k₀)) cs)) :
  Gs Try.prog main R D Stop F (G ((base 35).at ⟨#[.int .i64 a] ++ Array.replicate 8 undef, []⟩ [.code c35]) (b₀.at a₀ (.inRegion ops₀ (i₀ :: rest₀) :: k₀) :: cs)) := by
 refine (?_ : GE Try.prog main R D Stop F (base 35) _ 9 [] [(0, .int .i64 a)] [.code c35]) _ (by simp) (looks1 _ _)
 simp only [c35, Try.f35, Option.getD_some]
 obtain ⟨b1, h1⟩ : ∃ b, decide (0 ≤ a) = b := ⟨_, rfl⟩
 obtain ⟨b2, h2⟩ : ∃ b, decide (a ≤ 281474976710655) = b := ⟨_, rfl⟩
 have g1 := bool_geq a 0
 have g2 := bool_leq a 281474976710655
 rw [h1] at g1
 rw [h2] at g2
 unfold rightB at hT
 rw [h1, h2] at hT
 cases b1 <;> cases b2
 all_goals
  repeat (first
   | refine GE.bin (op := .geq) U rfl rfl rfl (by k_ne) rfl rfl rfl g1 ?_
   | refine GE.bin (op := .leq) U rfl rfl rfl (by k_ne) rfl rfl rfl g2 ?_
   | refine GE.mv U rfl rfl rfl (by k_ne) rfl rfl ?_
   | refine GE.as U rfl rfl rfl (by k_ne) rfl rfl ?_
   | refine GE.regionEnd U ?_
   | refine GE.seq U ?_
   | refine GE.region _ U rfl ?_
   | refine GE.unwanted U rfl rfl rfl ?_
   | refine GE.pick U rfl rfl rfl (by k_ne) rfl rfl rfl ?_)
  exact GE.ret1 U rfl Try.func35 rfl rfl hT
set_option maxRecDepth 100000 in
set_option maxHeartbeats 8000000 in
theorem wrong_walk (U : Rule R D F) {a : Int} (hT : Gs Try.prog main R D Stop F (G (b₀.at (a₀.put ((ops₀[i₀]?).bind (·.dst)) (.bool (!rightB a))) (.inRegion ops₀ rest₀ :: k₀)) cs)) :
  Gs Try.prog main R D Stop F (G ((base 72).at ⟨#[.int .i64 a] ++ Array.replicate 5 undef, []⟩ [.code c72]) (b₀.at a₀ (.inRegion ops₀ (i₀ :: rest₀) :: k₀) :: cs)) := by
 refine (?_ : GE Try.prog main R D Stop F (base 72) _ 6 [] [(0, .int .i64 a)] [.code c72]) _ (by simp) (looks1 _ _)
 simp only [c72, Try.f72, Option.getD_some]
 repeat (first
  | refine GE.mv U rfl rfl rfl (by k_ne) rfl rfl ?_
  | refine GE.as U rfl rfl rfl (by k_ne) rfl rfl ?_
  | refine GE.regionEnd U ?_
  | refine GE.seq U ?_
  | refine GE.region _ U rfl ?_)
 refine GE.call #[.int .i64 a] U rfl rfl rfl (by k_ne) Try.func35 nm35 body35 (fun e he => by simp [he (.tmp 3) _ rfl]) fun T1 hT1 hl1 => ?_
 refine rightB_walk U (GE.put (N := 6) rfl hT1 hl1 ?_)
 repeat (first
  | refine GE.as U rfl rfl rfl (by k_ne) rfl rfl ?_
  | refine GE.regionEnd U ?_
  | refine GE.not U rfl rfl rfl (by k_ne) rfl rfl ?_)
 exact GE.ret1 U rfl Try.func72 rfl rfl hT
theorem GE.callv {P : Program} {N : Nat} {ds : List Deferred} {ρ : Rho} {b : Frame} {k : List Item} {ops : Array Oper} {i : Nat} {rest : List Nat} {o : Oper} {f : FuncId} {fn : Func} {c : Code} {x : Tmp} {args : Array Operand} {ats : Array TypeId} (vs : Array Value) (U : Rule R D F) (ho : ops[i]? = some o) (hop : o.op = .call { callee := .value (.tmp x), args, argTypes := ats }) (hx : ev ρ (.tmp x) = some (.func (.func f) #[] #[])) (hw : wantB ops ρ o = some true) (hk : b.kind ≠ .early)
  (hf : P.funcs[f]? = some fn) (hname : (fn.name == "runtime.NumGoroutine") = false) (hb : fn.body = some c) (hv : ∀ e : Operand → Value, (∀ x u, ev ρ x = some u → e x = u) → args.map e = vs)
  (h : ∀ T : Array Value, T.size = N → Looks ρ T → Gs P main R D Stop F (G ((base f).at { tmps := vs ++ Array.replicate (fn.ntmps - vs.size) undef, defers := [] } [.code c]) (b.at ⟨T, ds⟩ (.inRegion ops (i :: rest) :: k) :: cs))) : GE P main R D Stop F b cs N ds ρ (.inRegion ops (i :: rest) :: k) :=
 fun T hT hl => Gs.go U rfl (fun w hw' => by
  have hargs := hv _ fun x u e => hl.ev (ds := ds) e
  have hx' := hl.ev (ds := ds) hx
  have hcl : fn.body.isNone = false := by rw [hb]; rfl
  have e1 : execOp (Act.mk T ds).eval o = callFunc f vs := by
   simp only [execOp, hop, resolve, hx', hargs]
   show (do let d ← Deferred.ofValue (.func (.func f) #[] #[]) vs; invoke d.target d.args) = callFunc f vs
   simp [Deferred.ofValue, invoke]
  have hr : ∀ es, (execOp (Act.mk T ds).eval o).runT P w es = (.ok (.enter f vs) w, es) := fun es => by
   rw [e1]
   have hname' : ¬ fn.name = "runtime.NumGoroutine" := by simpa using hname
   have hcl' : ¬ fn.body = none := by rw [hb]; simp
   simp [callFunc, go_sem, hf, hname', hcl']
  have h1 := Sem.runT_fst P (execOp (Act.mk T ds).eval o) w #[]
  rw [hr] at h1
  have h2 : Sem.events P (execOp (Act.mk T ds).eval o) w #[] = #[] := by unfold Sem.events; rw [hr]
  have := stepG_enter (P := P) (main := main) (b := b) (a := ⟨T, ds⟩) (k := k) (cs := cs) (w := w) (rest := rest) (w' := w) ho (hl.want hw) hk h1.symm
  rw [this, listed_nil h2, enter_at vs hf hb]) (h T hT hl)
end
section
variable {D : World → World → Array Event → Prop} {Stop : Goroutine → World → Prop} {X : World} {cs : List Frame} {b₀ : Frame} {a₀ : Act} {ops₀ : Array Oper} {i₀ : Nat} {rest₀ : List Nat} {k₀ : List Item}
noncomputable def L91 : Code := cLp (cB (cR (cLl (cR c91))))
def badAt : List Int → Nat → Int
 | [], _ => -1
 | a :: l, p => if rightB a then badAt l (p + 1) else p
theorem lss_b (a c : Int) : binOp .lss 3 (.int .i64 a) (.int .i64 c) = pure (.bool (decide (a < c))) := rfl
set_option maxRecDepth 100000 in
set_option maxHeartbeats 8000000 in
theorem index_loop (hD : ∀ w w' : World, w.heap.size ≤ w'.heap.size → D w w' #[]) {A : Option Addr} {m cap : Nat} (hs : m ≤ 1000000000) {v : List Int} (hv : v.length = m)
  (hel : ∀ q ad, q < m → A = some ad → X.cell? (ad.add q) = some (.int .i64 (v.getD q 0))) (hnil : 0 < m → ∃ ad, A = some ad) (hrd : ∀ q ad d, q < m → A = some ad → ∀ es : Array Event, (∀ e ∈ es, e = ⟨.cell (ad.add q), false, false⟩) → D (X.at d) (X.at d) es)
  (hT : ∀ z : Int, z = badAt v 0 → Gs Try.prog true AtRel D Stop (IsAt X) (G (b₀.at (a₀.put ((ops₀[i₀]?).bind (·.dst)) (.int .i64 z)) (.inRegion ops₀ rest₀ :: k₀)) cs)) :
  ∀ (l : List Int) (p : Nat), v.drop p = l → p ≤ m → badAt l p = badAt v 0 → GE Try.prog true AtRel D Stop (IsAt X) (base 91) (b₀.at a₀ (.inRegion ops₀ (i₀ :: rest₀) :: k₀) :: cs) 19 [] [(0, .slice A m cap), (1, .func (.func 72) #[] #[]), (7, .int .i64 m), (8, .int .i64 p)] [.code L91, .inLoop L91, .inBlock 0, .code (cR (cR c91))] := by
 have U : Rule AtRel D (IsAt X) := isAt_rule hD X
 simp only [L91, c91, Try.f91, Option.getD_some, cR, cB, cLp, cLl]
 intro l
 induction l with
 | nil =>
  intro p hd hp hb
  have hpm : p = m := by
   have := congrArg List.length hd
   simp at this
   omega
  subst hpm
  have g := lss_b (p : Int) (p : Int)
  rw [decide_eq_false (by omega)] at g
  repeat (first
   | refine GE.bin (op := .lss) U rfl rfl rfl (by k_ne) rfl rfl rfl g ?_
   | refine GE.as U rfl rfl rfl (by k_ne) rfl rfl ?_
   | refine GE.regionEnd U ?_
   | refine GE.seq U ?_
   | refine GE.region _ U rfl ?_
   | (refine GE.cond false U rfl ?_; simp only [if_true, if_false, Bool.false_eq_true, ↓reduceIte])
   | refine GE.exit U rfl ?_)
  exact GE.ret1 U rfl Try.func91 rfl rfl (hT _ (by rw [← hb]; rfl))
 | cons a l ih =>
  intro p hd hp hb
  have hpm : p < m := by
   have := congrArg List.length hd
   simp at this
   omega
  have ha : v.getD p 0 = a := by
   have := congrArg (fun z => z.getD 0 0) hd
   simpa [List.getD_eq_getElem?_getD, List.getElem?_drop] using this
  obtain ⟨ad, rfl⟩ := hnil (by omega)
  have hcell := hel p ad hpm rfl
  rw [ha] at hcell
  have g := lss_b (p : Int) (m : Int)
  rw [decide_eq_true (by omega)] at g
  have hix : ∀ w : World, (Instr.indexAt 57 (.slice (some ad) m cap) (.int .i64 p)).run Try.prog w = .ok (.pointer (some (ad.add p))) w := fun w => by
   have : ¬ ((m : Int) ≤ p) := by omega
   go_simp
  have hixe : ∀ w : World, (Instr.indexAt 57 (.slice (some ad) m cap) (.int .i64 p)).events Try.prog w #[] = #[] := fun w => by
   simp [go_sem, hpm]
  repeat (first
   | refine GE.bin (op := .lss) U rfl rfl rfl (by k_ne) rfl rfl rfl g ?_
   | refine GE.ia (v := .pointer (some (ad.add p))) U rfl rfl rfl (by k_ne) rfl rfl rfl (fun w _ => hix w) (fun w _ => hixe w) ?_
   | refine GE.mv U rfl rfl rfl (by k_ne) rfl rfl ?_
   | refine GE.as U rfl rfl rfl (by k_ne) rfl rfl ?_
   | refine GE.regionEnd U ?_
   | refine GE.seq U ?_
   | refine GE.region _ U rfl ?_
   | (refine GE.cond true U rfl ?_; simp only [if_true, if_false, Bool.false_eq_true, ↓reduceIte])
   | refine GE.skip U ?_
   | refine GE.block U ?_)
  refine GE.rd (v := .int .i64 a) U rfl rfl rfl (by k_ne) rfl rfl (fun w hF => ?_) (fun w hF es hes => ?_) ?_
  ·obtain ⟨d, rfl⟩ := hF
   have hc : (X.at d).cell? (ad.add p) = some (.int .i64 a) := hcell
   generalize X.at d = w at hc ⊢
   go_simp
  ·obtain ⟨d, rfl⟩ := hF
   have hc : (X.at d).cell? (ad.add p) = some (.int .i64 a) := hcell
   refine hrd p ad d hpm rfl es fun e he => ?_
   have := hes e he
   generalize X.at d = w at hc this
   simp [go_sem, hc] at this
   rw [this]; rfl
  refine GE.callv #[.int .i64 a] U rfl rfl rfl rfl (by k_ne) Try.func72 nm72 body72 (fun e he => by simp [he (.tmp 15) _ rfl]) fun T1 hT1 hl1 => ?_
  refine wrong_walk U (GE.put (N := 19) rfl hT1 hl1 ?_)
  have hb' : badAt (a :: l) p = if rightB a then badAt l (p + 1) else (p : Int) := rfl
  cases hr : rightB a
  ·rw [hr] at hb'
   repeat (first
    | refine GE.mv U rfl rfl rfl (by k_ne) rfl rfl ?_
    | refine GE.as U rfl rfl rfl (by k_ne) rfl rfl ?_
    | refine GE.regionEnd U ?_
    | refine GE.seq U ?_
    | refine GE.region _ U rfl ?_
    | (refine GE.cond true U rfl ?_; simp only [if_true, if_false, Bool.false_eq_true, ↓reduceIte]))
   exact GE.ret1 U rfl Try.func91 rfl rfl (hT _ (by rw [← hb, hb']; rfl))
  ·rw [hr] at hb'
   have hw : IntKind.i64.wrap ((p : Int) + 1) = ((p + 1 : Nat) : Int) := by rw [IntKind.wrap_i64]; omega
   have ga : binOp .add 3 (.int .i64 p) (.int .i64 1) = pure (.int .i64 ((p + 1 : Nat) : Int)) := by
    rw [← hw]; rfl
   repeat (first
    | refine GE.bin (op := .add) U rfl rfl rfl (by k_ne) rfl rfl rfl ga ?_
    | refine GE.mv U rfl rfl rfl (by k_ne) rfl rfl ?_
    | refine GE.regionEnd U ?_
    | refine GE.region _ U rfl ?_
    | (refine GE.cond false U rfl ?_; simp only [if_true, if_false, Bool.false_eq_true, ↓reduceIte])
    | refine GE.skip U ?_
    | refine GE.inBlock U ?_)
   refine GE.inLoop U ?_
   exact GE.to [(0, .slice (some ad) m cap), (1, .func (.func 72) #[] #[]), (7, .int .i64 m), (8, .int .i64 ((p + 1 : Nat) : Int))] ⟨rfl, rfl, rfl, rfl, trivial⟩ (ih (p + 1) (by rw [← List.drop_drop, hd]; rfl) (by omega) (by rw [← hb, hb']; rfl))
theorem badAt_neg (l : List Int) : ∀ p, (badAt l p < 0 ↔ l.all rightB = true) ∧ -1 ≤ badAt l p := by
 induction l with
 | nil => intro p; simp [badAt]
 | cons a l ih =>
  intro p
  unfold badAt
  cases h : rightB a
  ·simp [h] <;> omega
  ·simpa [h] using ih (p + 1)
set_option maxRecDepth 100000 in
set_option maxHeartbeats 8000000 in
theorem indexf_walk (hD : ∀ w w' : World, w.heap.size ≤ w'.heap.size → D w w' #[]) {A : Option Addr} {m cap : Nat} (hs : m ≤ 1000000000) {v : List Int} (hv : v.length = m)
  (hel : ∀ q ad, q < m → A = some ad → X.cell? (ad.add q) = some (.int .i64 (v.getD q 0))) (hnil : 0 < m → ∃ ad, A = some ad) (hrd : ∀ q ad d, q < m → A = some ad → ∀ es : Array Event, (∀ e ∈ es, e = ⟨.cell (ad.add q), false, false⟩) → D (X.at d) (X.at d) es)
  (hT : ∀ z : Int, z = badAt v 0 → Gs Try.prog true AtRel D Stop (IsAt X) (G (b₀.at (a₀.put ((ops₀[i₀]?).bind (·.dst)) (.int .i64 z)) (.inRegion ops₀ rest₀ :: k₀)) cs)) :
  Gs Try.prog true AtRel D Stop (IsAt X) (G ((base 91).at ⟨#[.slice A m cap, .func (.func 72) #[] #[]] ++ Array.replicate 17 undef, []⟩ [.code c91]) (b₀.at a₀ (.inRegion ops₀ (i₀ :: rest₀) :: k₀) :: cs)) := by
 have U : Rule AtRel D (IsAt X) := isAt_rule hD X
 refine (?_ : GE Try.prog true AtRel D Stop (IsAt X) (base 91) _ 19 [] [(0, .slice A m cap), (1, .func (.func 72) #[] #[])] [.code c91]) _ (by simp) (looks2 _ _ _)
 have hlp := index_loop hD hs hv hel hnil hrd (cap := cap) hT v 0 rfl (by omega) rfl
 simp only [L91, c91, Try.f91, Option.getD_some, cR, cB, cLp, cLl] at hlp ⊢
 repeat (first
  | refine GE.len (l := (m : Int)) U rfl rfl rfl (by k_ne) rfl rfl (fun w _ => (len57 A m cap w).1) (fun w _ => (len57 A m cap w).2) ?_
  | refine GE.mv U rfl rfl rfl (by k_ne) rfl rfl ?_
  | refine GE.as U rfl rfl rfl (by k_ne) rfl rfl ?_
  | refine GE.regionEnd U ?_
  | refine GE.seq U ?_
  | refine GE.region _ U rfl ?_
  | refine GE.block U ?_)
 refine GE.loop U ?_
 exact GE.to [(0, .slice A m cap), (1, .func (.func 72) #[] #[]), (7, .int .i64 m), (8, .int .i64 ((0 : Nat) : Int))] ⟨rfl, rfl, rfl, rfl, trivial⟩ hlp
set_option maxRecDepth 100000 in
set_option maxHeartbeats 8000000 in
theorem contains_walk (hD : ∀ w w' : World, w.heap.size ≤ w'.heap.size → D w w' #[]) {A : Option Addr} {m cap : Nat} (hs : m ≤ 1000000000) {v : List Int} (hv : v.length = m)
  (hel : ∀ q ad, q < m → A = some ad → X.cell? (ad.add q) = some (.int .i64 (v.getD q 0))) (hnil : 0 < m → ∃ ad, A = some ad) (hrd : ∀ q ad d, q < m → A = some ad → ∀ es : Array Event, (∀ e ∈ es, e = ⟨.cell (ad.add q), false, false⟩) → D (X.at d) (X.at d) es)
  (hT : Gs Try.prog true AtRel D Stop (IsAt X) (G (b₀.at (a₀.put ((ops₀[i₀]?).bind (·.dst)) (.bool (!v.all rightB))) (.inRegion ops₀ rest₀ :: k₀)) cs)) :
  Gs Try.prog true AtRel D Stop (IsAt X) (G ((base 71).at ⟨#[.slice A m cap, .func (.func 72) #[] #[]] ++ Array.replicate 7 undef, []⟩ [.code c71]) (b₀.at a₀ (.inRegion ops₀ (i₀ :: rest₀) :: k₀) :: cs)) := by
 have U : Rule AtRel D (IsAt X) := isAt_rule hD X
 refine (?_ : GE Try.prog true AtRel D Stop (IsAt X) (base 71) _ 9 [] [(0, .slice A m cap), (1, .func (.func 72) #[] #[])] [.code c71]) _ (by simp) (looks2 _ _ _)
 simp only [c71, Try.f71, Option.getD_some]
 repeat (first
  | refine GE.mv U rfl rfl rfl (by k_ne) rfl rfl ?_
  | refine GE.as U rfl rfl rfl (by k_ne) rfl rfl ?_
  | refine GE.regionEnd U ?_
  | refine GE.seq U ?_
  | refine GE.region _ U rfl ?_)
 refine GE.call #[.slice A m cap, .func (.func 72) #[] #[]] U rfl rfl rfl (by k_ne) Try.func91 nm91 body91 (fun e he => by simp [he (.tmp 5) _ rfl, he (.tmp 6) _ rfl]) fun T1 hT1 hl1 => ?_
 refine indexf_walk hD hs hv hel hnil hrd (fun z hz => GE.put (N := 9) rfl hT1 hl1 ?_)
 obtain ⟨n1, n2⟩ := badAt_neg v 0
 have g : binOp .geq 3 (.int .i64 z) (.int .i64 0) = pure (.bool (!v.all rightB)) := by
  rw [bool_geq]
  congr 2
  cases h : v.all rightB
  ·have : ¬ badAt v 0 < 0 := fun x => by rw [n1.1 x] at h; cases h
   rw [hz]
   simpa using this
  ·have := n1.2 h
   rw [hz]
   simpa using this
 repeat (first
  | refine GE.bin (op := .geq) U rfl rfl rfl (by k_ne) rfl rfl rfl g ?_
  | refine GE.as U rfl rfl rfl (by k_ne) rfl rfl ?_
  | refine GE.regionEnd U ?_)
 exact GE.ret1 U rfl Try.func71 rfl rfl hT
end
end Go.Proofs.Ytnikfjfcbpeieaa.Hk
end
