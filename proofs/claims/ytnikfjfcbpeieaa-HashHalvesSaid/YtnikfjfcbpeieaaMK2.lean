/- The contract of mac.Bytes (by hand). -/
/- Contracts by hand, in the print's words: mac.Bytes, the turned Spread, slices.Max. Written by mkkf.py. -/
import Derived.Test.YtnikfjfcbpeieaaMK0
import Derived.Test.YtnikfjfcbpeieaaProg
import Derived.Test.YtnikfjfcbpeieaaMW
import Derived.WalkKit
import Derived.LoopN
import Derived.Outline
import Derived.Test.YtnikfjfcbpeieaaMK1
section
namespace Go.Proofs.Ytnikfjfcbpeieaa.EMac
open Go.RowKit Go.Proofs.YtnikfjfcbpeieaaW.PrintWords Go.Proofs.YtnikfjfcbpeieaaW.PrintLast Go.Proofs.YtnikfjfcbpeieaaW.PrintMore
set_option linter.unusedVariables false
set_option linter.unusedSimpArgs false
def b6 (a : Int) : List Int := [a / 1099511627776, a / 4294967296 % 256, a / 16777216 % 256, a / 65536 % 256, a / 256 % 256, a % 256]
theorem six_C (W : World) (x0 x1 x2 x3 x4 x5 : Int) (t : TypeId) :
  Kd.C (Kd.int .u8) (W.alloc (.cells #[.int .u8 x0, .int .u8 x1, .int .u8 x2, .int .u8 x3, .int .u8 x4, .int .u8 x5] t)) (some ⟨W.heap.size, 0, none⟩) 6 [x0, x1, x2, x3, x4, x5] := by
 refine ⟨rfl, by decide, fun _ => ⟨_, rfl, fun j p hj => ⟨[.int .u8 p], rfl, rfl, fun i u hu => ?_⟩⟩⟩
 have hi : i = 0 := by
  rcases i with _ | i
  ·rfl
  ·simp at hu
 subst hi
 have hu' : u = .int .u8 p := by simpa using hu.symm
 subst hu'
 have hj' : j < 6 := (List.getElem?_eq_some_iff.1 hj).1
 have key : ∀ n, (W.alloc (.cells #[.int .u8 x0, .int .u8 x1, .int .u8 x2, .int .u8 x3, .int .u8 x4, .int .u8 x5] t)).cell? ⟨W.heap.size, n, none⟩ = (#[.int .u8 x0, .int .u8 x1, .int .u8 x2, .int .u8 x3, .int .u8 x4, .int .u8 x5] : Array Value)[n]? := fun n => World.cell?_alloc_new W _ t n
 rcases j with _ | _ | _ | _ | _ | _ | j
 ·obtain rfl : x0 = p := by simpa using hj
  exact key 0
 ·obtain rfl : x1 = p := by simpa using hj
  exact key 1
 ·obtain rfl : x2 = p := by simpa using hj
  exact key 2
 ·obtain rfl : x3 = p := by simpa using hj
  exact key 3
 ·obtain rfl : x4 = p := by simpa using hj
  exact key 4
 ·obtain rfl : x5 = p := by simpa using hj
  exact key 5
 ·omega
theorem six_string (W : World) (x0 x1 x2 x3 x4 x5 : Int) :
  (convert 35 9 (.slice (some ⟨W.heap.size, 0, none⟩) 6 6)).run Th.prog (W.alloc (.cells #[.int .u8 x0, .int .u8 x1, .int .u8 x2, .int .u8 x3, .int .u8 x4, .int .u8 x5] 91)) =
   .ok (.string (strOfNums [x0, x1, x2, x3, x4, x5])) (W.alloc (.cells #[.int .u8 x0, .int .u8 x1, .int .u8 x2, .int .u8 x3, .int .u8 x4, .int .u8 x5] 91)) :=
 Kd.C_string Th.underlying35 Th.underlying5 Th.underlying9 (six_C W x0 x1 x2 x3 x4 x5 91)
set_option maxRecDepth 100000 in
set_option maxHeartbeats 2000000 in
theorem bytes_yes (a : Int) (w : World) (h0 : 0 ≤ a) (h1 : a ≤ 281474976710655) :
  Calls Th.prog 33 #[.int .i64 a] w fun e w' => e = .returned (.tuple #[.string (strOfNums (b6 a)), .int .i64 0]) ∧ Below w.heap.size w w' := by
 have d0 : decide (0 ≤ a) = true := decide_eq_true h0
 have d1 : decide (a ≤ 281474976710655) = true := decide_eq_true h1
 have hcv := six_string w (a / 1099511627776) (a / 4294967296 % 256) (a / 16777216 % 256) (a / 65536 % 256) (a / 256 % 256) (a % 256)
 go_enter Th.func33, Try.ntmps33
 go_wp2
 refine wp_loop_rounds 7 ?_
 rw [rounds_succ]
 go_wp2
 rw [rounds_succ]
 go_wp2
 rw [rounds_succ]
 go_wp2
 rw [rounds_succ]
 go_wp2
 rw [rounds_succ]
 go_wp2
 rw [rounds_succ]
 go_wp2
 rw [rounds_succ]
 go_wp2
 go_ret2
 exact ⟨rfl, (Below.refl _ _).alloc (Nat.le_refl _) _⟩
theorem bytes_no (a : Int) (w : World) (h : ¬ (0 ≤ a ∧ a ≤ 281474976710655)) :
  Calls Th.prog 33 #[.int .i64 a] w fun e w' => e = .returned (.tuple #[.string ⟨#[]⟩, .int .i64 1]) ∧ Below w.heap.size w w' := by
 by_cases h0 : 0 ≤ a
 ·have d0 : decide (0 ≤ a) = true := decide_eq_true h0
  have d1 : decide (a ≤ 281474976710655) = false := decide_eq_false (fun h1 => h ⟨h0, h1⟩)
  go_enter Th.func33, Try.ntmps33
  go_wp2
  go_ret2
  exact ⟨rfl, Below.refl _ _⟩
 ·have d0 : decide (0 ≤ a) = false := decide_eq_false h0
  go_enter Th.func33, Try.ntmps33
  go_wp2
  go_ret2
  exact ⟨rfl, Below.refl _ _⟩
end Go.Proofs.Ytnikfjfcbpeieaa.EMac
end
section
namespace Go.Proofs.Ytnikfjfcbpeieaa.EHa
open Go Go.Conc Go.RowKit Go.Proofs.Ytnikfjfcbpeieaa.Lk Go.Proofs.Ytnikfjfcbpeieaa.Hk Go.Proofs.YtnikfjfcbpeieaaW.PrintWords Go.Proofs.YtnikfjfcbpeieaaW.PrintLast Go.Proofs.YtnikfjfcbpeieaaW.PrintMore
open Go.ConcR.Gen
set_option linter.unusedVariables false
set_option linter.unusedSimpArgs false
def mac_Bytes.f (a0 : Int) : Option (ByteArray × Int) := if 0 ≤ a0 ∧ a0 ≤ 281474976710655 then some (strOfNums (EMac.b6 a0), 0) else some ((⟨#[]⟩ : ByteArray), 1)
theorem mac_Bytes.calls (a0 : Int) (r1 : ByteArray) (r2 : Int) (w : World) (h : mac_Bytes.f a0 = some (r1, r2)) :
  Calls Th.prog 33 #[.int .i64 a0] w fun e w' => e = .returned (.tuple #[.string r1, .int .i64 r2]) ∧ Below w.heap.size w w' := by
 unfold mac_Bytes.f at h
 split at h
 ·rename_i hc
  simp only [Option.some.injEq, Prod.mk.injEq] at h
  obtain ⟨rfl, rfl⟩ := h
  exact EMac.bytes_yes a0 w hc.1 hc.2
 ·rename_i hc
  simp only [Option.some.injEq, Prod.mk.injEq] at h
  obtain ⟨rfl, rfl⟩ := h
  exact EMac.bytes_no a0 w hc
def spr (l : List Int) (n : Nat) : List Int := (bkl n l).foldl inc (List.replicate n 0)
def hash_Spread.f (l0 : List Int) (a1 : Int) : Option (List Int × Int) :=
 if l0.length ≤ 1000000000 then (if numB a1 = true then (if l0.all rightB = true then some (spr l0 a1.toNat, 0) else some ([], 1)) else some ([], 2)) else none
theorem foldl_inc_length (xs : List Int) : ∀ c : List Int, (xs.foldl inc c).length = c.length := by
 induction xs with
 | nil => intro c; rfl
 | cons x xs ih => intro c; rw [List.foldl_cons, ih, inc_length]
theorem spr_length (l : List Int) (n : Nat) : (spr l n).length = n := by unfold spr; rw [foldl_inc_length]; simp
theorem hsl_of {A : Option Addr} {c : Nat} {xs : List Int} {w : World} (hr : Kd.C (Kd.int .i64) w A xs.length xs) (hc : xs.length ≤ c) (hs : xs.length ≤ 1000000000) : HSl w A xs.length c xs := by
 obtain ⟨_, _, h3⟩ := hr
 refine ⟨fun h => ?_, fun q ad hq e => ?_, rfl, hc, hs⟩
 ·obtain ⟨ad, e, _⟩ := h3 h
  exact ⟨ad, e⟩
 ·obtain ⟨ad', e', h4⟩ := h3 (by omega)
  obtain rfl : ad = ad' := by rw [e] at e'; exact Option.some.inj e'
  obtain ⟨cells, k1, k2, k3⟩ := h4 q (xs.getD q 0) (by simp [List.getD_eq_getElem?_getD, List.getElem?_eq_getElem hq])
  have k2' : cells = [.int .i64 (xs.getD q 0)] := k2
  subst k2'
  have := k3 0 (.int .i64 (xs.getD q 0)) rfl
  have e : (q * (Kd.int .i64).sz + 0) = q := by show q * 1 + 0 = q; omega
  rw [e] at this
  exact this
theorem hash_Spread.calls (A0 : Option Addr) (c0 : Nat) (l0 : List Int) (a1 : Int) (r1 : List Int) (r2 : Int) (w : World) (hr0 : Kd.C (Kd.int .i64) w A0 l0.length l0) (hc0 : l0.length ≤ c0) (h : hash_Spread.f l0 a1 = some (r1, r2)) :
  Calls Th.prog 45 #[.slice A0 l0.length c0, .int .i64 a1] w fun e w' => ∃ v0_ : Value, e = .returned (.tuple #[v0_, .int .i64 r2]) ∧ Kd.R (Kd.int .i64) 3 w' w.heap.size (fun _ => True) v0_ r1 ∧ Below w.heap.size w w' := by
 unfold hash_Spread.f at h
 split at h
 case isFalse => cases h
 rename_i hs
 refine (spread_calls (z := a1) (hsl_of hr0 hc0 hs)).mono ?_
 rintro e w' ⟨v1, v2, rfl, ho⟩
 rcases ho.res with ⟨g1, rfl, rfl, g4⟩ | ⟨g1, g1', rfl, rfl, g4⟩ | ⟨n, rfl, g1, g1', rfl, rfl, g4, g5⟩
 ·rw [g1] at h
  simp only [Bool.false_eq_true, if_false, Option.some.injEq, Prod.mk.injEq] at h
  obtain ⟨rfl, rfl⟩ := h
  exact ⟨_, rfl, Kd.R_nil _ _ _ _ _, ho.below⟩
 ·rw [g1, g1'] at h
  simp only [if_true, Bool.false_eq_true, if_false, Option.some.injEq, Prod.mk.injEq] at h
  obtain ⟨rfl, rfl⟩ := h
  exact ⟨_, rfl, Kd.R_nil _ _ _ _ _, ho.below⟩
 ·rw [g1, g1'] at h
  simp only [if_true, Option.some.injEq, Prod.mk.injEq, Int.toNat_natCast] at h
  obtain ⟨rfl, rfl⟩ := h
  refine ⟨_, rfl, Kd.R_of_own ?_ (fun _ _ => trivial), ho.below⟩
  rw [spr_length]
  have hn : (encs (Value.int .i64) (spr l0 n)).length = n := by unfold encs; rw [List.length_map, spr_length]
  obtain ⟨_, _, hn'⟩ := numB_nat g1
  refine ⟨by rw [hn]; omega, .inr ⟨w.heap.size + 1, n, ((spr l0 n).map (Value.int .i64)).toArray, rfl, by omega, g5, Nat.le_refl _, ?_, ?_, ?_⟩⟩
  ·have : maxLen = 9223372036854775807 := rfl
   omega
  ·simp [spr_length]
  ·rw [Nat.mul_one]
   show ((spr l0 n).map (Value.int .i64)).take n = (spr l0 n).map (Value.int .i64)
   rw [List.take_of_length_le (by rw [List.length_map, spr_length]; exact Nat.le_refl _)]
def slices_Max.f (l0 : List Int) : Option Int := if 1 ≤ l0.length ∧ l0.length ≤ 1000000000 then some (l0.tail.foldl mx (l0.getD 0 0)) else none
noncomputable def c78 : Code := Try.f78.body.getD .skip
theorem body78 : Try.f78.body = some c78 := rfl
theorem enter78 (v1 : Value) : Frame.enter Th.prog 78 #[v1] .normal = (base 78).at ⟨#[v1] ++ Array.replicate 24 undef, []⟩ [.code c78] := by
 rw [enter_at (c := c78) _ Th.func78 body78, Th.ntmps78]
 rfl
noncomputable def X78 : Code := cLp (cB (cR (cLl (cR (cR (cR c78))))))
noncomputable def e78 : Code := cR (cR (cR (cR c78)))
theorem run_mxq {e : Operand → Value} {o : Oper} {a b : Int} (hop : o.op = .call { callee := .builtin .max, args := #[.tmp 18, .tmp 22], argTypes := #[3, 3] }) (ha : e (.tmp 18) = .int .i64 a) (hb : e (.tmp 22) = .int .i64 b) (w : World) : (execOp e o).run Th.prog w = .ok (.value (.int .i64 (mx a b))) w := by
 simp [execOp, resolve, invoke, builtin, hop, go_sem, ha, hb, Result.andThen, Builtin.max_, Builtin.max2, mx]
theorem run_ln1 {e : Operand → Value} {o : Oper} {x : Operand} {A : Option Addr} {n cap : Nat} (hop : o.op = .call { callee := .builtin .len, args := #[x], argTypes := #[57] }) (ht : o.type = 3) (he : e x = .slice A n cap) (w : World) : (execOp e o).run Th.prog w = .ok (.value (.int .i64 n)) w := by
 have h1 := lenq A n cap w
 simp [execOp, resolve, invoke, builtin, hop, go_sem, he, ht, h1, Result.andThen]
section
variable {C : List Frame} {J : Frame → World → Prop} {Ok : Array Value → Prop} {W : World} {A : Option Addr} {m cap : Nat} {l : List Int}
set_option maxRecDepth 100000 in
set_option maxHeartbeats 8000000 in
theorem loop78 (U : Clos Th.prog C J Ok (fun _ => True)) (h : HSl W A m cap l) (hT : ∀ (T : Array Value) (todo : List Item), T[2]? = some (.int .i64 (l.tail.foldl mx (l.getD 0 0))) → J { (base 78).at ⟨T, []⟩ todo with mode := .returning } W) :
  ∀ (l' : List Int) (p : Nat), l.drop p = l' → p ≤ m → ∀ x : Int, l'.foldl mx x = l.tail.foldl mx (l.getD 0 0) → FE J Ok (base 78) 25 [(0, .slice A m cap), (3, .int .i64 x), (4, .int .i64 (p : Nat))] [.code X78, .inLoop X78, .inBlock 0, .code e78] W := by
 intro l'
 induction l' with
 | nil =>
  intro p hp hpm x hx
  obtain rfl : p = m := by
   have := congrArg List.length hp
   simp only [List.length_drop, List.length_nil, h.len] at this
   omega
  have hlt : ¬ ((p : Nat) : Int) < ((p : Nat) : Int) := by omega
  rw [← hx] at hT
  clear hx
  simp only [X78, e78, c78, Try.f78, Option.getD_some, cR, cLl, cB, cLp]
  repeat (first
   | refine FE.bin (op := .lss) U rfl rfl rfl (by k_ne) rfl rfl rfl (ltF hlt) (by first | exact trivial | exact .int _ _ | exact .bool _) ?_
   | refine FE.val (v := .int .i64 p) U rfl rfl (by k_ne) rfl trivial (fun e he => run_ln1 rfl rfl (he _ (.slice A p cap) rfl) W) ?_
   | refine FE.mv U rfl rfl rfl (by k_ne) rfl rfl (by first | exact trivial | exact .int _ _ | exact .bool _) ?_
   | refine FE.as U rfl rfl rfl (by k_ne) rfl rfl (by first | exact trivial | exact .int _ _ | exact .bool _) ?_
   | refine FE.regionEnd U ?_
   | refine FE.seq U ?_
   | refine FE.region _ U rfl ?_
   | (refine FE.cond false U rfl ?_; simp only [if_true, if_false, Bool.false_eq_true, ↓reduceIte])
   | refine FE.exit U rfl ?_)
  refine FE.ret U fun T hT' hO hl => hT T _ (hl 2 _ rfl)
 | cons y l' ih =>
  intro p hp hpm x hx
  have hpl : p < l.length := by
   have := congrArg List.length hp
   simp only [List.length_drop, List.length_cons] at this
   omega
  have hlm := h.len
  have hsm := h.small
  have hy : l.getD p 0 = y := by
   have := congrArg (fun x : List Int => x.getD 0 0) hp
   simpa [List.getD_eq_getElem?_getD] using this
  have hdr : l.drop (p + 1) = l' := by
   have := congrArg List.tail hp
   simpa [List.tail_drop] using this
  obtain ⟨ad, hA⟩ := h.nil (by omega)
  have hel := h.el p ad (by omega) hA
  rw [hy] at hel
  have ih' := ih (p + 1) hdr (by omega) (mx x y) hx
  clear ih hT hx
  subst hA
  have hlt : ((p : Nat) : Int) < ((m : Nat) : Int) := by omega
  have h0p : (0 : Int) ≤ ((p : Nat) : Int) := by omega
  simp only [X78, e78, c78, Try.f78, Option.getD_some, cR, cLl, cB, cLp] at ih' ⊢
  repeat (first
   | refine FE.bin (op := .lss) U rfl rfl rfl (by k_ne) rfl rfl rfl (ltT hlt) (by first | exact trivial | exact .int _ _ | exact .bool _) ?_
   | refine FE.val (v := .int .i64 m) U rfl rfl (by k_ne) rfl trivial (fun e he => run_ln1 rfl rfl (he _ (.slice (some ad) m cap) rfl) W) ?_
   | refine FE.mv U rfl rfl rfl (by k_ne) rfl rfl (by first | exact trivial | exact .int _ _ | exact .bool _) ?_
   | refine FE.regionEnd U ?_
   | refine FE.seq U ?_
   | refine FE.region _ U rfl ?_
   | (refine FE.cond true U rfl ?_; simp only [if_true, if_false, Bool.false_eq_true, ↓reduceIte])
   | refine FE.skip U ?_
   | refine FE.block U ?_)
  refine FE.ia U rfl rfl rfl (by k_ne) rfl rfl rfl (ix57q h0p hlt W) trivial ?_
  rw [Int.toNat_natCast]
  refine FE.rd U rfl rfl rfl (by k_ne) rfl rfl (loadq W hel) trivial ?_
  refine FE.val (v := .int .i64 (mx x y)) U rfl rfl (by k_ne) rfl trivial (fun e he => run_mxq rfl (he _ _ rfl) (he _ _ rfl) W) ?_
  repeat (first
   | refine FE.bin (op := .add) U rfl rfl rfl (by k_ne) rfl rfl rfl (add1q (p := p) (by omega)) (by first | exact trivial | exact .int _ _ | exact .bool _) ?_
   | refine FE.mv U rfl rfl rfl (by k_ne) rfl rfl (by first | exact trivial | exact .int _ _ | exact .bool _) ?_
   | refine FE.as U rfl rfl rfl (by k_ne) rfl rfl (by first | exact trivial | exact .int _ _ | exact .bool _) ?_
   | refine FE.regionEnd U ?_
   | refine FE.region _ U rfl ?_
   | refine FE.inBlock U ?_)
  refine FE.inLoop U ?_
  exact FE.to [(0, .slice (some ad) m cap), (3, .int .i64 (mx x y)), (4, .int .i64 ((p + 1 : Nat)))] ⟨rfl, rfl, rfl, trivial⟩ ih'
end
set_option maxRecDepth 100000 in
set_option maxHeartbeats 8000000 in
theorem slices_Max.calls (A0 : Option Addr) (c0 : Nat) (l0 : List Int) (r : Int) (w : World) (hr0 : Kd.C (Kd.int .i64) w A0 l0.length l0) (hc0 : l0.length ≤ c0) (h : slices_Max.f l0 = some r) :
  Calls Th.prog 78 #[.slice A0 l0.length c0] w fun e w' => e = .returned (.int .i64 r) ∧ Drawn0 w w' := by
 unfold slices_Max.f at h
 split at h
 case isFalse => cases h
 rename_i hs
 obtain ⟨h1, h2⟩ := hs
 have hs := hsl_of hr0 hc0 h2
 clear hr0
 obtain rfl := Option.some.inj h
 intro cs
 let Goal : Frame → List Frame → World → Prop := fun f cs2 w2 => cs2 = cs ∧ w2 = w ∧ ∃ T todo, f = { (base 78).at ⟨T, []⟩ todo with mode := .returning } ∧ T[2]? = some (.int .i64 (l0.tail.foldl mx (l0.getD 0 0)))
 suffices hx : RT Goal (Frame.enter Th.prog 78 #[.slice A0 l0.length c0] .normal) cs w by
  obtain ⟨N, f2, cs2, w2, h1, rfl, rfl, T, todo, rfl, t2⟩ := hx
  refine ⟨.returned (.int .i64 _), w2, _, ⟨rfl, ⟨0, rfl⟩⟩, ⟨N, h1⟩, rfl, rfl, rfl, rfl, Try.f78, Th.func78, ?_⟩
  simp [results, Th.results78, Frame.at, t2, go_sem]
 rw [enter78]
 have U : Clos Th.prog cs (fun f w => RT Goal f cs w) (fun _ => True) (fun _ => True) := rt_clos
 have hl := loop78 U hs (fun T todo t2 => RT.goal ⟨rfl, rfl, T, todo, rfl, t2⟩) l0.tail 1 (by simp) h1 (l0.getD 0 0) rfl
 obtain ⟨ad, hA⟩ := hs.nil (by omega)
 have hel := hs.el 0 ad (by omega) hA
 rw [show ad.add 0 = ad by unfold Addr.add; simp] at hel
 subst hA
 refine (?_ : FE (fun f w => RT Goal f cs w) (fun _ => True) (base 78) 25 [(0, .slice (some ad) l0.length c0)] [.code c78] w) _ (by simp) trivial (looks1 _ _)
 have hlt : ¬ ((l0.length : Nat) : Int) < 1 := by omega
 have h0l : (0 : Int) < ((l0.length : Nat) : Int) := by omega
 generalize l0.length = m at *
 simp only [X78, e78, c78, Try.f78, Option.getD_some, cR, cLl, cB, cLp] at hl ⊢
 repeat (first
  | refine FE.bin (op := .lss) U rfl rfl rfl (by k_ne) rfl rfl rfl (ltF hlt) (by first | exact trivial | exact .int _ _ | exact .bool _) ?_
  | refine FE.val (v := .int .i64 m) U rfl rfl (by k_ne) rfl trivial (fun e he => run_ln1 rfl rfl (he _ (.slice (some ad) m c0) rfl) w) ?_
  | refine FE.mv U rfl rfl rfl (by k_ne) rfl rfl (by first | exact trivial | exact .int _ _ | exact .bool _) ?_
  | refine FE.as U rfl rfl rfl (by k_ne) rfl rfl (by first | exact trivial | exact .int _ _ | exact .bool _) ?_
  | refine FE.regionEnd U ?_
  | refine FE.seq U ?_
  | refine FE.region _ U rfl ?_
  | (refine FE.cond false U rfl ?_; simp only [if_true, if_false, Bool.false_eq_true, ↓reduceIte])
  | refine FE.skip U ?_)
 refine FE.ia U rfl rfl rfl (by k_ne) rfl rfl rfl (ix57q (Int.le_refl 0) h0l w) trivial ?_
 refine FE.rd (v := .int .i64 (l0.getD 0 0)) U rfl rfl rfl (by k_ne) rfl rfl (loadq w (by rw [show ad.add (0 : Int).toNat = ad by unfold Addr.add; simp]; exact hel)) trivial ?_
 repeat (first
  | refine FE.as U rfl rfl rfl (by k_ne) rfl rfl (by first | exact trivial | exact .int _ _ | exact .bool _) ?_
  | refine FE.regionEnd U ?_
  | refine FE.seq U ?_
  | refine FE.region _ U rfl ?_
  | refine FE.block U ?_)
 refine FE.loop U ?_
 exact FE.to [(0, .slice (some ad) m c0), (3, .int .i64 (l0.getD 0 0)), (4, .int .i64 ((1 : Nat)))] ⟨rfl, rfl, rfl, trivial⟩ hl
end Go.Proofs.Ytnikfjfcbpeieaa.EHa
end
