-- Laid by a program of this session out of the translation; Lean checks it.
import Derived.Test.YtnkkedkkjmehpaaPQux0
import Derived.Test.YtnkkedkkjmehpaaPQux1
import Derived.Test.YtnkkedkkjmehpaaPQux3
import Derived.Test.YtnkkedkkjmehpaaEQu
import Derived.Test.YtnkkedkkjmehpaaPQuy0
import Derived.Test.YtnkkedkkjmehpaaPQuyT
import Derived.Test.YtnkkedkkjmehpaaPQuyC
import Derived.Sort.AtCall
namespace Go.Proofs.Ytnkkedkkjmehpaa.PQu
open Go.RowKit Go.Proofs.Ytnkkedkkjmehpaa.EQu Go.Proofs.YtnkkedkkjmehpaaW.PrintWords Go.Proofs.YtnkkedkkjmehpaaW.PrintLast Go.Proofs.YtnkkedkkjmehpaaW.PrintMore
attribute [local go_sem] max2_int min2_int max_two min_two max_three min_three max_four min_four   -- for this text's walks alone
set_option linter.unusedVariables false
set_option linter.unusedSimpArgs false

set_option maxHeartbeats 40000000 in
set_option maxRecDepth 100000 in
theorem footwaylaw09_QueueTells.partB (k : Nat)
    (a0 a1_0 : Int)
    (A1_1 : Option Addr)
    (c1_1 : Nat)
    (l1_1 : List ByteArray)
    (a1_2 : Int)
    (a2 : ByteArray)
    (r : Bool)
    (w : World)
    (hu35 : Program.underlying Try.prog 35 = some (TypeDesc.struct #[{ name := "Cap", type := 3, offset := 0, embedded := false, tag := "", pkgPath := "", byteOffset := 0 }, { name := "Items", type := 33, offset := 1, embedded := false, tag := "", pkgPath := "", byteOffset := 8 }, { name := "Lost", type := 3, offset := 2, embedded := false, tag := "", pkgPath := "", byteOffset := 32 }]))
    (HR1_1 : Aside0 (Kd.C Kd.string w A1_1 (List.length l1_1) l1_1))
    (HC1_1 : Aside0 (List.length l1_1 ≤ c1_1))
    (t233 : Int)
    (t234 : List ByteArray)
    (t237 : Int)
    (A4 : Aside0 (footwaylaw09_few.f k a1_0 l1_1 a1_2 = some (t233, t234, t237)))
    (ji5 : Int)
    (hji5 : mn (↑(ByteArray.size a2) : Int) (130 : Int) = ji5)
    (hji5h : ji5 ≤ (130 : Int))
    (hji5l hji5m : (0 : Int) ≤ ji5)
    (hji5_ : (if (130 : Int) < (↑(ByteArray.size a2) : Int) then (130 : Int) else (↑(ByteArray.size a2) : Int)) = ji5)
    (c6b0 : ((0 : Int) ≤ ji5) = True)
    (c6b1 : decide ((0 : Int) ≤ ji5) = true)
    (c7b0 : (ji5 ≤ (↑(ByteArray.size a2) : Int)) = True)
    (c7b1 : decide (ji5 ≤ (↑(ByteArray.size a2) : Int)) = true)
    (t238 : Int)
    (t239 : List ByteArray)
    (t242 t243 : Int)
    (A8 : Aside0 (queue_New.f a0 = some (t238, t239, t242, t243)))
    (t245 : Int)
    (t246 : List ByteArray)
    (t249 : Int)
    (t250 : Bool)
    (t251 : Int)
    (A9 : Aside0 (queue_Push.f k t233 t234 t237 (ByteArray.extract a2 0 (Int.toNat ji5)) = some (t245, t246, t249, t250, t251)))
    (t253 : Int)
    (t254 : List ByteArray)
    (t257 : Int)
    (t258 : ByteArray)
    (t259 : Int)
    (A10 : Aside0 (queue_Pop.f t233 t234 t237 = some (t253, t254, t257, t258, t259)))
    (t261 : Int)
    (t262 : List ByteArray)
    (t265 t266 t267 : Int)
    (A11 : Aside0 (queue_Clear.f t233 t234 t237 = some (t261, t262, t265, t266, t267)))
    (gb232 : Nat)
    (w13 : World)
    (GW232 GE232 : Aside0 (Array.size w.heap ≤ gb232))
    (w14 : World)
    (w15 : World)
    (Ao17 : Option Addr)
    (co17 : Nat)
    (hs16 : World.cell? w15 { block := gb232, off := 0 } = some (Value.int IntKind.i64 a1_0))
    (hfs16 : World.frozen? w15 { block := gb232, off := 0 } = false)
    (hs18 : World.cell? w15 { block := gb232, off := 1 } = some (Value.slice A1_1 (List.length l1_1) c1_1))
    (hfs18 : World.frozen? w15 { block := gb232, off := 1 } = false)
    (hs19 : World.cell? w15 { block := gb232, off := 2 } = some (Value.int IntKind.i64 a1_2))
    (hfs19 : World.frozen? w15 { block := gb232, off := 2 } = false)
    (w20 : World)
    (gb244 : Nat)
    (w21 : World)
    (GW244 GE244 : Aside0 (Array.size w.heap ≤ gb244))
    (NB232_244 : Aside0 (gb232 ≠ gb244))
    (NB244_232 : Aside0 (gb244 ≠ gb232))
    (hnb22 : gb244 ≠ gb232)
    (hnc22 : gb232 ≠ gb244)
    (Ao24 : Option Addr)
    (co24 : Nat)
    (w25 w27 : World)
    (gb252 : Nat)
    (w28 : World)
    (GW252 GE252 : Aside0 (Array.size w.heap ≤ gb252))
    (NB232_252 : Aside0 (gb232 ≠ gb252))
    (NB252_232 : Aside0 (gb252 ≠ gb232))
    (NB244_252 : Aside0 (gb244 ≠ gb252))
    (NB252_244 : Aside0 (gb252 ≠ gb244))
    (hnb29 : gb252 ≠ gb232)
    (hnc29 : gb232 ≠ gb252)
    (hnb30 : gb252 ≠ gb244)
    (hnc30 : gb244 ≠ gb252)
    (Ao32 : Option Addr)
    (co32 : Nat)
    (w33 w35 : World)
    (gb260 : Nat)
    (w36 : World)
    (GW260 GE260 : Aside0 (Array.size w.heap ≤ gb260))
    (NB232_260 : Aside0 (gb232 ≠ gb260))
    (NB260_232 : Aside0 (gb260 ≠ gb232))
    (NB244_260 : Aside0 (gb244 ≠ gb260))
    (NB260_244 : Aside0 (gb260 ≠ gb244))
    (NB252_260 : Aside0 (gb252 ≠ gb260))
    (NB260_252 : Aside0 (gb260 ≠ gb252))
    (hnb37 : gb260 ≠ gb232)
    (hnc37 : gb232 ≠ gb260)
    (hnb38 : gb260 ≠ gb244)
    (hnc38 : gb244 ≠ gb260)
    (hnb39 : gb260 ≠ gb252)
    (hnc39 : gb252 ≠ gb260)
    (Ao41 : Option Addr)
    (co41 : Nat)
    (w43 : World)
    (gb268 : Nat)
    (w44 : World)
    (GW268 GE268 : Aside0 (Array.size w.heap ≤ gb268))
    (NB232_268 : Aside0 (gb232 ≠ gb268))
    (NB268_232 : Aside0 (gb268 ≠ gb232))
    (NB244_268 : Aside0 (gb244 ≠ gb268))
    (NB268_244 : Aside0 (gb268 ≠ gb244))
    (NB252_268 : Aside0 (gb252 ≠ gb268))
    (NB268_252 : Aside0 (gb268 ≠ gb252))
    (NB260_268 : Aside0 (gb260 ≠ gb268))
    (NB268_260 : Aside0 (gb268 ≠ gb260))
    (hnb45 : gb268 ≠ gb232)
    (hnc45 : gb232 ≠ gb268)
    (hnb46 : gb268 ≠ gb244)
    (hnc46 : gb244 ≠ gb268)
    (hnb47 : gb268 ≠ gb252)
    (hnc47 : gb252 ≠ gb268)
    (hnb48 : gb268 ≠ gb260)
    (hnc48 : gb260 ≠ gb268)
    (Ao50 : Option Addr)
    (co50 gb269 : Nat)
    (w51 : World)
    (HO236 : Aside0 (Kd.R Kd.string 9 w51 (Array.size w.heap) (fun x => some x ≠ Value.ownBlock (Value.slice Ao24 (List.length t239) co24) ∧ some x ≠ Value.ownBlock (Value.slice Ao50 (List.length t262) co50)) (Value.slice Ao17 (List.length t234) co17) t234))
    (HO241 : Aside0 (Kd.R Kd.string 9 w51 (Array.size w.heap) (fun x => some x ≠ Value.ownBlock (Value.slice Ao17 (List.length t234) co17) ∧ some x ≠ Value.ownBlock (Value.slice Ao50 (List.length t262) co50)) (Value.slice Ao24 (List.length t239) co24) t239))
    (HO248 : Aside0 (Kd.V Kd.string 9 w51 (Array.size w.heap) (fun k => ((((some k ≠ Value.ownBlock (Value.slice Ao24 (List.length t239) co24) ∧ k ≠ gb232 ∧ k ≠ gb244 ∧ k ≠ gb252) ∧ k ≠ gb260) ∧ some k ≠ Value.ownBlock (Value.slice Ao50 (List.length t262) co50)) ∧ k ≠ gb268) ∧ k ≠ gb269) (Value.slice Ao32 (List.length t246) co32) t246))
    (HO256 : Aside0 (Kd.V Kd.string 9 w51 (Array.size w.heap) (fun k => ((((some k ≠ Value.ownBlock (Value.slice Ao24 (List.length t239) co24) ∧ k ≠ gb232 ∧ k ≠ gb244 ∧ k ≠ gb252) ∧ k ≠ gb260) ∧ some k ≠ Value.ownBlock (Value.slice Ao50 (List.length t262) co50)) ∧ k ≠ gb268) ∧ k ≠ gb269) (Value.slice Ao41 (List.length t254) co41) t254))
    (HO264 : Aside0 (Kd.R Kd.string 9 w51 (Array.size w.heap) (fun x => (True ∧ some x ≠ Value.ownBlock (Value.slice Ao17 (List.length t234) co17)) ∧ some x ≠ Value.ownBlock (Value.slice Ao24 (List.length t239) co24)) (Value.slice Ao50 (List.length t262) co50) t262))
    (GW269 GE269 : Aside0 (Array.size w.heap ≤ gb269))
    (NB232_269 : Aside0 (gb232 ≠ gb269))
    (NB269_232 : Aside0 (gb269 ≠ gb232))
    (NB244_269 : Aside0 (gb244 ≠ gb269))
    (NB269_244 : Aside0 (gb269 ≠ gb244))
    (NB252_269 : Aside0 (gb252 ≠ gb269))
    (NB269_252 : Aside0 (gb269 ≠ gb252))
    (NB260_269 : Aside0 (gb260 ≠ gb269))
    (NB269_260 : Aside0 (gb269 ≠ gb260))
    (NB268_269 : Aside0 (gb268 ≠ gb269))
    (NB269_268 : Aside0 (gb269 ≠ gb268))
    (hnb52 : gb269 ≠ gb232)
    (hnc52 : gb232 ≠ gb269)
    (hnb53 : gb269 ≠ gb244)
    (hnc53 : gb244 ≠ gb269)
    (hnb54 : gb269 ≠ gb252)
    (hnc54 : gb252 ≠ gb269)
    (hnb55 : gb269 ≠ gb260)
    (hnc55 : gb260 ≠ gb269)
    (hnb56 : gb269 ≠ gb268)
    (hnc56 : gb268 ≠ gb269)
    (K1 : Act → World → Prop)
    (hK1 : ∀ (a_ : Act) (w_ : World), Code.wp Try.prog (Code.seq (Code.seq (Code.region 9 #[{ dst := some 64, op := Op.move (Operand.tmp 0), type := 3, pos := "law.go:38", after := #[], guard := none }, { dst := some 65, op := Op.binOp BinOp.lss 3 (Operand.tmp 64) (Operand.const (Value.int IntKind.i64 (1 : Int))) 3, type := 4, pos := "law.go:38", after := #[{ on := 0, ground := Ground.data }], guard := none }, { dst := some 66, op := Op.move (Operand.tmp 65), type := 4, pos := "law.go:38", after := #[{ on := 1, ground := Ground.data }], guard := none }, { dst := some 67, op := Op.move (Operand.tmp 0), type := 3, pos := "law.go:38", after := #[{ on := 2, ground := Ground.guard }], guard := some (2, false) }, { dst := some 68, op := Op.binOp BinOp.gtr 3 (Operand.tmp 67) (Operand.const (Value.int IntKind.i64 (32 : Int))) 3, type := 4, pos := "law.go:38", after := #[{ on := 3, ground := Ground.data }, { on := 2, ground := Ground.guard }], guard := some (2, false) }, { dst := some 69, op := Op.pick (Operand.tmp 66) (Operand.const (Value.bool true)) (Operand.tmp 68), type := 4, pos := "law.go:38", after := #[{ on := 2, ground := Ground.data }, { on := 4, ground := Ground.data }], guard := none }] false) (Code.cond (Operand.tmp 69) (Code.seq (Code.region 10 #[{ dst := some 70, op := Op.move (Operand.tmp 8), type := 26, pos := "law.go:39", after := #[], guard := none }, { dst := some 71, op := Op.binOp BinOp.neq 26 (Operand.tmp 70) (Operand.const (Value.int IntKind.i64 (2 : Int))) 26, type := 4, pos := "law.go:39", after := #[{ on := 0, ground := Ground.data }], guard := none }, { dst := some 72, op := Op.move (Operand.tmp 71), type := 4, pos := "law.go:39", after := #[{ on := 1, ground := Ground.data }], guard := none }, { dst := some 73, op := Op.load 35 (Operand.tmp 7), type := 35, pos := "law.go:39", after := #[{ on := 2, ground := Ground.guard }], guard := some (2, false) }, { dst := some 74, op := Op.load 35 (Operand.tmp 18), type := 35, pos := "law.go:39", after := #[{ on := 2, ground := Ground.guard }], guard := some (2, false) }, { dst := some 75, op := Op.call { callee := Callee.value (Operand.func 28), args := #[Operand.tmp 73, Operand.tmp 74], argTypes := #[35, 35] }, type := 4, pos := "law.go:39", after := #[{ on := 3, ground := Ground.data }, { on := 4, ground := Ground.data }, { on := 2, ground := Ground.chain }, { on := 2, ground := Ground.guard }], guard := some (2, false) }, { dst := some 76, op := Op.unOp UnOp.not 4 (Operand.tmp 75), type := 4, pos := "law.go:39", after := #[{ on := 5, ground := Ground.data }, { on := 2, ground := Ground.guard }], guard := some (2, false) }, { dst := some 77, op := Op.pick (Operand.tmp 72) (Operand.const (Value.bool true)) (Operand.tmp 76), type := 4, pos := "law.go:39", after := #[{ on := 2, ground := Ground.data }, { on := 6, ground := Ground.data }], guard := none }] false) (Code.cond (Operand.tmp 77) (Code.seq (Code.region 11 #[{ dst := some 6, op := Op.assign (Operand.const (Value.bool false)), type := 4, pos := "law.go:40", after := #[], guard := none }] false) Code.ret) Code.skip)) (Code.seq (Code.region 12 #[{ dst := some 78, op := Op.move (Operand.tmp 8), type := 26, pos := "law.go:42", after := #[], guard := none }, { dst := some 79, op := Op.binOp BinOp.neq 26 (Operand.tmp 78) (Operand.const (Value.int IntKind.i64 (0 : Int))) 26, type := 4, pos := "law.go:42", after := #[{ on := 0, ground := Ground.data }], guard := none }, { dst := some 80, op := Op.move (Operand.tmp 79), type := 4, pos := "law.go:42", after := #[{ on := 1, ground := Ground.data }], guard := none }, { dst := some 81, op := Op.load 35 (Operand.tmp 7), type := 35, pos := "law.go:42", after := #[{ on := 2, ground := Ground.guard }], guard := some (2, false) }, { dst := some 82, op := Op.move (Operand.tmp 0), type := 3, pos := "law.go:42", after := #[{ on := 2, ground := Ground.guard }], guard := some (2, false) }, { dst := some 83, op := Op.build 35 #[(0, Operand.tmp 82)], type := 35, pos := "law.go:42", after := #[{ on := 4, ground := Ground.data }, { on := 2, ground := Ground.guard }], guard := some (2, false) }, { dst := some 84, op := Op.call { callee := Callee.value (Operand.func 28), args := #[Operand.tmp 81, Operand.tmp 83], argTypes := #[35, 35] }, type := 4, pos := "law.go:42", after := #[{ on := 3, ground := Ground.data }, { on := 5, ground := Ground.data }, { on := 2, ground := Ground.chain }, { on := 2, ground := Ground.guard }], guard := some (2, false) }, { dst := some 85, op := Op.unOp UnOp.not 4 (Operand.tmp 84), type := 4, pos := "law.go:42", after := #[{ on := 6, ground := Ground.data }, { on := 2, ground := Ground.guard }], guard := some (2, false) }, { dst := some 86, op := Op.pick (Operand.tmp 80) (Operand.const (Value.bool true)) (Operand.tmp 85), type := 4, pos := "law.go:42", after := #[{ on := 2, ground := Ground.data }, { on := 7, ground := Ground.data }], guard := none }] false) (Code.cond (Operand.tmp 86) (Code.seq (Code.region 13 #[{ dst := some 6, op := Op.assign (Operand.const (Value.bool false)), type := 4, pos := "law.go:43", after := #[], guard := none }] false) Code.ret) Code.skip)))) (Code.seq (Code.seq (Code.region 14 #[{ dst := some 87, op := Op.load 35 (Operand.tmp 4), type := 35, pos := "law.go:45", after := #[], guard := none }, { dst := some 88, op := Op.call { callee := Callee.value (Operand.func 26), args := #[Operand.tmp 87], argTypes := #[35] }, type := 4, pos := "law.go:45", after := #[{ on := 0, ground := Ground.data }], guard := none }, { dst := some 89, op := Op.unOp UnOp.not 4 (Operand.tmp 88), type := 4, pos := "law.go:45", after := #[{ on := 1, ground := Ground.data }], guard := none }] false) (Code.cond (Operand.tmp 89) (Code.seq (Code.region 15 #[{ dst := some 90, op := Op.move (Operand.tmp 11), type := 26, pos := "law.go:46", after := #[], guard := none }, { dst := some 91, op := Op.binOp BinOp.eql 26 (Operand.tmp 90) (Operand.const (Value.int IntKind.i64 (1 : Int))) 26, type := 4, pos := "law.go:46", after := #[{ on := 0, ground := Ground.data }], guard := none }, { dst := some 92, op := Op.move (Operand.tmp 91), type := 4, pos := "law.go:46", after := #[{ on := 1, ground := Ground.data }], guard := none }, { dst := some 93, op := Op.move (Operand.tmp 14), type := 26, pos := "law.go:46", after := #[{ on := 2, ground := Ground.guard }], guard := some (2, true) }, { dst := some 94, op := Op.binOp BinOp.eql 26 (Operand.tmp 93) (Operand.const (Value.int IntKind.i64 (1 : Int))) 26, type := 4, pos := "law.go:46", after := #[{ on := 3, ground := Ground.data }, { on := 2, ground := Ground.guard }], guard := some (2, true) }, { dst := some 95, op := Op.pick (Operand.tmp 92) (Operand.tmp 94) (Operand.const (Value.bool false)), type := 4, pos := "law.go:46", after := #[{ on := 2, ground := Ground.data }, { on := 4, ground := Ground.data }], guard := none }, { dst := some 96, op := Op.move (Operand.tmp 95), type := 4, pos := "law.go:46", after := #[{ on := 5, ground := Ground.data }, { on := 2, ground := Ground.chain }], guard := none }, { dst := some 97, op := Op.move (Operand.tmp 17), type := 26, pos := "law.go:46", after := #[{ on := 6, ground := Ground.guard }], guard := some (6, true) }, { dst := some 98, op := Op.binOp BinOp.eql 26 (Operand.tmp 97) (Operand.const (Value.int IntKind.i64 (1 : Int))) 26, type := 4, pos := "law.go:46", after := #[{ on := 7, ground := Ground.data }, { on := 6, ground := Ground.guard }], guard := some (6, true) }, { dst := some 99, op := Op.pick (Operand.tmp 96) (Operand.tmp 98) (Operand.const (Value.bool false)), type := 4, pos := "law.go:46", after := #[{ on := 6, ground := Ground.data }, { on := 8, ground := Ground.data }], guard := none }, { dst := some 100, op := Op.move (Operand.tmp 99), type := 4, pos := "law.go:46", after := #[{ on := 9, ground := Ground.data }, { on := 6, ground := Ground.chain }], guard := none }, { dst := some 101, op := Op.move (Operand.tmp 10), type := 4, pos := "law.go:46", after := #[{ on := 10, ground := Ground.guard }], guard := some (10, true) }, { dst := some 102, op := Op.unOp UnOp.not 4 (Operand.tmp 101), type := 4, pos := "law.go:46", after := #[{ on := 11, ground := Ground.data }, { on := 10, ground := Ground.guard }], guard := some (10, true) }, { dst := some 103, op := Op.pick (Operand.tmp 100) (Operand.tmp 102) (Operand.const (Value.bool false)), type := 4, pos := "law.go:46", after := #[{ on := 10, ground := Ground.data }, { on := 12, ground := Ground.data }], guard := none }, { dst := some 104, op := Op.move (Operand.tmp 103), type := 4, pos := "law.go:46", after := #[{ on := 13, ground := Ground.data }, { on := 10, ground := Ground.chain }], guard := none }, { dst := some 105, op := Op.move (Operand.tmp 13), type := 9, pos := "law.go:46", after := #[{ on := 14, ground := Ground.guard }], guard := some (14, true) }, { dst := some 106, op := Op.binOp BinOp.eql 9 (Operand.tmp 105) (Operand.const (Value.string { data := #[] })) 9, type := 4, pos := "law.go:46", after := #[{ on := 15, ground := Ground.data }, { on := 14, ground := Ground.guard }], guard := some (14, true) }, { dst := some 107, op := Op.pick (Operand.tmp 104) (Operand.tmp 106) (Operand.const (Value.bool false)), type := 4, pos := "law.go:46", after := #[{ on := 14, ground := Ground.data }, { on := 16, ground := Ground.data }], guard := none }, { dst := some 108, op := Op.move (Operand.tmp 107), type := 4, pos := "law.go:46", after := #[{ on := 17, ground := Ground.data }, { on := 14, ground := Ground.chain }], guard := none }, { dst := some 109, op := Op.move (Operand.tmp 16), type := 3, pos := "law.go:46", after := #[{ on := 18, ground := Ground.guard }], guard := some (18, true) }, { dst := some 110, op := Op.binOp BinOp.eql 3 (Operand.tmp 109) (Operand.const (Value.int IntKind.i64 (0 : Int))) 3, type := 4, pos := "law.go:46", after := #[{ on := 19, ground := Ground.data }, { on := 18, ground := Ground.guard }], guard := some (18, true) }, { dst := some 111, op := Op.pick (Operand.tmp 108) (Operand.tmp 110) (Operand.const (Value.bool false)), type := 4, pos := "law.go:46", after := #[{ on := 18, ground := Ground.data }, { on := 20, ground := Ground.data }], guard := none }, { dst := some 112, op := Op.move (Operand.tmp 111), type := 4, pos := "law.go:46", after := #[{ on := 21, ground := Ground.data }, { on := 18, ground := Ground.chain }], guard := none }, { dst := some 113, op := Op.load 35 (Operand.tmp 9), type := 35, pos := "law.go:46", after := #[{ on := 22, ground := Ground.guard }], guard := some (22, true) }, { dst := some 114, op := Op.load 35 (Operand.tmp 18), type := 35, pos := "law.go:46", after := #[{ on := 22, ground := Ground.guard }], guard := some (22, true) }, { dst := some 115, op := Op.call { callee := Callee.value (Operand.func 28), args := #[Operand.tmp 113, Operand.tmp 114], argTypes := #[35, 35] }, type := 4, pos := "law.go:46", after := #[{ on := 23, ground := Ground.data }, { on := 24, ground := Ground.data }, { on := 22, ground := Ground.chain }, { on := 22, ground := Ground.guard }], guard := some (22, true) }, { dst := some 116, op := Op.pick (Operand.tmp 112) (Operand.tmp 115) (Operand.const (Value.bool false)), type := 4, pos := "law.go:46", after := #[{ on := 22, ground := Ground.data }, { on := 25, ground := Ground.data }], guard := none }, { dst := some 117, op := Op.move (Operand.tmp 116), type := 4, pos := "law.go:46", after := #[{ on := 26, ground := Ground.data }, { on := 25, ground := Ground.chain }], guard := none }, { dst := some 118, op := Op.load 35 (Operand.tmp 12), type := 35, pos := "law.go:46", after := #[{ on := 27, ground := Ground.guard }], guard := some (27, true) }, { dst := some 119, op := Op.load 35 (Operand.tmp 18), type := 35, pos := "law.go:46", after := #[{ on := 27, ground := Ground.guard }], guard := some (27, true) }, { dst := some 120, op := Op.call { callee := Callee.value (Operand.func 28), args := #[Operand.tmp 118, Operand.tmp 119], argTypes := #[35, 35] }, type := 4, pos := "law.go:46", after := #[{ on := 28, ground := Ground.data }, { on := 29, ground := Ground.data }, { on := 27, ground := Ground.chain }, { on := 27, ground := Ground.guard }], guard := some (27, true) }, { dst := some 121, op := Op.pick (Operand.tmp 117) (Operand.tmp 120) (Operand.const (Value.bool false)), type := 4, pos := "law.go:46", after := #[{ on := 27, ground := Ground.data }, { on := 30, ground := Ground.data }], guard := none }, { dst := some 122, op := Op.move (Operand.tmp 121), type := 4, pos := "law.go:46", after := #[{ on := 31, ground := Ground.data }, { on := 30, ground := Ground.chain }], guard := none }, { dst := some 123, op := Op.load 35 (Operand.tmp 15), type := 35, pos := "law.go:46", after := #[{ on := 32, ground := Ground.guard }], guard := some (32, true) }, { dst := some 124, op := Op.load 35 (Operand.tmp 18), type := 35, pos := "law.go:46", after := #[{ on := 32, ground := Ground.guard }], guard := some (32, true) }, { dst := some 125, op := Op.call { callee := Callee.value (Operand.func 28), args := #[Operand.tmp 123, Operand.tmp 124], argTypes := #[35, 35] }, type := 4, pos := "law.go:46", after := #[{ on := 33, ground := Ground.data }, { on := 34, ground := Ground.data }, { on := 32, ground := Ground.chain }, { on := 32, ground := Ground.guard }], guard := some (32, true) }, { dst := some 126, op := Op.pick (Operand.tmp 122) (Operand.tmp 125) (Operand.const (Value.bool false)), type := 4, pos := "law.go:46", after := #[{ on := 32, ground := Ground.data }, { on := 35, ground := Ground.data }], guard := none }, { dst := some 6, op := Op.assign (Operand.tmp 126), type := 4, pos := "law.go:46", after := #[{ on := 36, ground := Ground.data }, { on := 35, ground := Ground.chain }, { on := 0, ground := Ground.phase }, { on := 1, ground := Ground.phase }, { on := 2, ground := Ground.phase }, { on := 3, ground := Ground.phase }, { on := 4, ground := Ground.phase }, { on := 5, ground := Ground.phase }, { on := 6, ground := Ground.phase }, { on := 7, ground := Ground.phase }, { on := 8, ground := Ground.phase }, { on := 9, ground := Ground.phase }, { on := 10, ground := Ground.phase }, { on := 11, ground := Ground.phase }, { on := 12, ground := Ground.phase }, { on := 13, ground := Ground.phase }, { on := 14, ground := Ground.phase }, { on := 15, ground := Ground.phase }, { on := 16, ground := Ground.phase }, { on := 17, ground := Ground.phase }, { on := 18, ground := Ground.phase }, { on := 19, ground := Ground.phase }, { on := 20, ground := Ground.phase }, { on := 21, ground := Ground.phase }, { on := 22, ground := Ground.phase }, { on := 23, ground := Ground.phase }, { on := 24, ground := Ground.phase }, { on := 25, ground := Ground.phase }, { on := 26, ground := Ground.phase }, { on := 27, ground := Ground.phase }, { on := 28, ground := Ground.phase }, { on := 29, ground := Ground.phase }, { on := 30, ground := Ground.phase }, { on := 31, ground := Ground.phase }, { on := 32, ground := Ground.phase }, { on := 33, ground := Ground.phase }, { on := 34, ground := Ground.phase }, { on := 35, ground := Ground.phase }, { on := 36, ground := Ground.phase }], guard := none }] false) Code.ret) Code.skip)) (Code.seq (Code.region 16 #[{ dst := some 128, op := Op.load 35 (Operand.tmp 4), type := 35, pos := "law.go:48", after := #[], guard := none }, { dst := some 129, op := Op.call { callee := Callee.value (Operand.func 29), args := #[Operand.tmp 128], argTypes := #[35] }, type := 47, pos := "law.go:48", after := #[{ on := 0, ground := Ground.data }], guard := none }, { dst := some 127, op := Op.move (Operand.tmp 129), type := 47, pos := "law.go:48", after := #[{ on := 1, ground := Ground.data }], guard := none }, { dst := some 130, op := Op.extract (Operand.tmp 127) 0, type := 35, pos := "law.go:48", after := #[{ on := 2, ground := Ground.data }], guard := none }, { dst := some 131, op := Op.extract (Operand.tmp 127) 1, type := 3, pos := "law.go:48", after := #[{ on := 2, ground := Ground.data }, { on := 6, ground := Ground.gcOnly Departure.lateStores }], guard := none }, { dst := some 19, op := Op.alloc 35, type := 0, pos := "law.go:48", after := #[], guard := none }, { dst := none, op := Op.store 35 (Operand.tmp 19) (Operand.tmp 130), type := 0, pos := "law.go:48", after := #[{ on := 5, ground := Ground.data }, { on := 3, ground := Ground.data }, { on := 1, ground := Ground.chain }, { on := 0, ground := Ground.phase }, { on := 1, ground := Ground.phase }, { on := 2, ground := Ground.phase }, { on := 3, ground := Ground.phase }, { on := 4, ground := Ground.textOnly Departure.lateStores }, { on := 5, ground := Ground.phase }], guard := none }, { dst := some 20, op := Op.assign (Operand.tmp 131), type := 3, pos := "law.go:48", after := #[{ on := 4, ground := Ground.data }, { on := 6, ground := Ground.chain }, { on := 0, ground := Ground.phase }, { on := 1, ground := Ground.phase }, { on := 2, ground := Ground.phase }, { on := 3, ground := Ground.phase }, { on := 4, ground := Ground.phase }, { on := 5, ground := Ground.phase }, { on := 6, ground := Ground.phase }], guard := none }] false) (Code.seq (Code.seq (Code.region 17 #[{ dst := some 132, op := Op.move (Operand.tmp 17), type := 26, pos := "law.go:49", after := #[], guard := none }, { dst := some 133, op := Op.binOp BinOp.neq 26 (Operand.tmp 132) (Operand.const (Value.int IntKind.i64 (0 : Int))) 26, type := 4, pos := "law.go:49", after := #[{ on := 0, ground := Ground.data }], guard := none }, { dst := some 134, op := Op.move (Operand.tmp 133), type := 4, pos := "law.go:49", after := #[{ on := 1, ground := Ground.data }], guard := none }, { dst := some 135, op := Op.move (Operand.tmp 16), type := 3, pos := "law.go:49", after := #[{ on := 2, ground := Ground.guard }], guard := some (2, false) }, { dst := some 136, op := Op.move (Operand.tmp 20), type := 3, pos := "law.go:49", after := #[{ on := 2, ground := Ground.guard }], guard := some (2, false) }, { dst := some 137, op := Op.binOp BinOp.neq 3 (Operand.tmp 135) (Operand.tmp 136) 3, type := 4, pos := "law.go:49", after := #[{ on := 3, ground := Ground.data }, { on := 4, ground := Ground.data }, { on := 2, ground := Ground.guard }], guard := some (2, false) }, { dst := some 138, op := Op.pick (Operand.tmp 134) (Operand.const (Value.bool true)) (Operand.tmp 137), type := 4, pos := "law.go:49", after := #[{ on := 2, ground := Ground.data }, { on := 5, ground := Ground.data }], guard := none }, { dst := some 139, op := Op.move (Operand.tmp 138), type := 4, pos := "law.go:49", after := #[{ on := 6, ground := Ground.data }, { on := 2, ground := Ground.chain }], guard := none }, { dst := some 140, op := Op.load 35 (Operand.tmp 15), type := 35, pos := "law.go:49", after := #[{ on := 7, ground := Ground.guard }], guard := some (7, false) }, { dst := some 141, op := Op.load 35 (Operand.tmp 19), type := 35, pos := "law.go:49", after := #[{ on := 7, ground := Ground.guard }], guard := some (7, false) }, { dst := some 142, op := Op.call { callee := Callee.value (Operand.func 28), args := #[Operand.tmp 140, Operand.tmp 141], argTypes := #[35, 35] }, type := 4, pos := "law.go:49", after := #[{ on := 8, ground := Ground.data }, { on := 9, ground := Ground.data }, { on := 7, ground := Ground.chain }, { on := 7, ground := Ground.guard }], guard := some (7, false) }, { dst := some 143, op := Op.unOp UnOp.not 4 (Operand.tmp 142), type := 4, pos := "law.go:49", after := #[{ on := 10, ground := Ground.data }, { on := 7, ground := Ground.guard }], guard := some (7, false) }, { dst := some 144, op := Op.pick (Operand.tmp 139) (Operand.const (Value.bool true)) (Operand.tmp 143), type := 4, pos := "law.go:49", after := #[{ on := 7, ground := Ground.data }, { on := 11, ground := Ground.data }], guard := none }] false) (Code.cond (Operand.tmp 144) (Code.seq (Code.region 18 #[{ dst := some 6, op := Op.assign (Operand.const (Value.bool false)), type := 4, pos := "law.go:50", after := #[], guard := none }] false) Code.ret) Code.skip)) (Code.seq (Code.seq (Code.region 19 #[{ dst := some 145, op := Op.fieldAddr 35 (Operand.tmp 4) 1, type := 0, pos := "law.go:52", after := #[], guard := none }, { dst := some 146, op := Op.load 33 (Operand.tmp 145), type := 33, pos := "law.go:52", after := #[{ on := 0, ground := Ground.data }], guard := none }, { dst := some 147, op := Op.call { callee := Callee.builtin Builtin.len, args := #[Operand.tmp 146], argTypes := #[33] }, type := 3, pos := "law.go:52", after := #[{ on := 1, ground := Ground.data }], guard := none }, { dst := some 148, op := Op.binOp BinOp.eql 3 (Operand.tmp 147) (Operand.const (Value.int IntKind.i64 (0 : Int))) 3, type := 4, pos := "law.go:52", after := #[{ on := 2, ground := Ground.data }], guard := none }] false) (Code.cond (Operand.tmp 148) (Code.seq (Code.region 20 #[{ dst := some 149, op := Op.move (Operand.tmp 14), type := 26, pos := "law.go:53", after := #[], guard := none }, { dst := some 150, op := Op.binOp BinOp.neq 26 (Operand.tmp 149) (Operand.const (Value.int IntKind.i64 (4 : Int))) 26, type := 4, pos := "law.go:53", after := #[{ on := 0, ground := Ground.data }], guard := none }, { dst := some 151, op := Op.move (Operand.tmp 150), type := 4, pos := "law.go:53", after := #[{ on := 1, ground := Ground.data }], guard := none }, { dst := some 152, op := Op.move (Operand.tmp 13), type := 9, pos := "law.go:53", after := #[{ on := 2, ground := Ground.guard }], guard := some (2, false) }, { dst := some 153, op := Op.binOp BinOp.neq 9 (Operand.tmp 152) (Operand.const (Value.string { data := #[] })) 9, type := 4, pos := "law.go:53", after := #[{ on := 3, ground := Ground.data }, { on := 2, ground := Ground.guard }], guard := some (2, false) }, { dst := some 154, op := Op.pick (Operand.tmp 151) (Operand.const (Value.bool true)) (Operand.tmp 153), type := 4, pos := "law.go:53", after := #[{ on := 2, ground := Ground.data }, { on := 4, ground := Ground.data }], guard := none }, { dst := some 155, op := Op.move (Operand.tmp 154), type := 4, pos := "law.go:53", after := #[{ on := 5, ground := Ground.data }, { on := 2, ground := Ground.chain }], guard := none }, { dst := some 156, op := Op.load 35 (Operand.tmp 12), type := 35, pos := "law.go:53", after := #[{ on := 6, ground := Ground.guard }], guard := some (6, false) }, { dst := some 157, op := Op.load 35 (Operand.tmp 18), type := 35, pos := "law.go:53", after := #[{ on := 6, ground := Ground.guard }], guard := some (6, false) }, { dst := some 158, op := Op.call { callee := Callee.value (Operand.func 28), args := #[Operand.tmp 156, Operand.tmp 157], argTypes := #[35, 35] }, type := 4, pos := "law.go:53", after := #[{ on := 7, ground := Ground.data }, { on := 8, ground := Ground.data }, { on := 6, ground := Ground.chain }, { on := 6, ground := Ground.guard }], guard := some (6, false) }, { dst := some 159, op := Op.unOp UnOp.not 4 (Operand.tmp 158), type := 4, pos := "law.go:53", after := #[{ on := 9, ground := Ground.data }, { on := 6, ground := Ground.guard }], guard := some (6, false) }, { dst := some 160, op := Op.pick (Operand.tmp 155) (Operand.const (Value.bool true)) (Operand.tmp 159), type := 4, pos := "law.go:53", after := #[{ on := 6, ground := Ground.data }, { on := 10, ground := Ground.data }], guard := none }] false) (Code.cond (Operand.tmp 160) (Code.seq (Code.region 21 #[{ dst := some 6, op := Op.assign (Operand.const (Value.bool false)), type := 4, pos := "law.go:54", after := #[], guard := none }] false) Code.ret) Code.skip)) (Code.seq (Code.region 22 #[{ dst := some 161, op := Op.move (Operand.tmp 14), type := 26, pos := "law.go:56", after := #[], guard := none }, { dst := some 162, op := Op.binOp BinOp.neq 26 (Operand.tmp 161) (Operand.const (Value.int IntKind.i64 (0 : Int))) 26, type := 4, pos := "law.go:56", after := #[{ on := 0, ground := Ground.data }], guard := none }, { dst := some 163, op := Op.move (Operand.tmp 162), type := 4, pos := "law.go:56", after := #[{ on := 1, ground := Ground.data }], guard := none }, { dst := some 164, op := Op.move (Operand.tmp 13), type := 9, pos := "law.go:56", after := #[{ on := 2, ground := Ground.guard }], guard := some (2, false) }, { dst := some 165, op := Op.fieldAddr 35 (Operand.tmp 4) 1, type := 0, pos := "law.go:56", after := #[{ on := 2, ground := Ground.guard }], guard := some (2, false) }, { dst := some 166, op := Op.load 33 (Operand.tmp 165), type := 33, pos := "law.go:56", after := #[{ on := 4, ground := Ground.data }, { on := 2, ground := Ground.guard }], guard := some (2, false) }, { dst := some 167, op := Op.indexAddr 33 (Operand.tmp 166) (Operand.const (Value.int IntKind.i64 (0 : Int))), type := 0, pos := "law.go:56", after := #[{ on := 5, ground := Ground.data }, { on := 2, ground := Ground.guard }], guard := some (2, false) }, { dst := some 168, op := Op.load 9 (Operand.tmp 167), type := 9, pos := "law.go:56", after := #[{ on := 6, ground := Ground.data }, { on := 2, ground := Ground.guard }], guard := some (2, false) }, { dst := some 169, op := Op.binOp BinOp.neq 9 (Operand.tmp 164) (Operand.tmp 168) 9, type := 4, pos := "law.go:56", after := #[{ on := 3, ground := Ground.data }, { on := 7, ground := Ground.data }, { on := 2, ground := Ground.guard }], guard := some (2, false) }, { dst := some 170, op := Op.pick (Operand.tmp 163) (Operand.const (Value.bool true)) (Operand.tmp 169), type := 4, pos := "law.go:56", after := #[{ on := 2, ground := Ground.data }, { on := 8, ground := Ground.data }], guard := none }, { dst := some 171, op := Op.move (Operand.tmp 170), type := 4, pos := "law.go:56", after := #[{ on := 9, ground := Ground.data }, { on := 2, ground := Ground.chain }], guard := none }, { dst := some 172, op := Op.load 35 (Operand.tmp 12), type := 35, pos := "law.go:56", after := #[{ on := 10, ground := Ground.guard }], guard := some (10, false) }, { dst := some 173, op := Op.fieldAddr 35 (Operand.tmp 4) 0, type := 0, pos := "law.go:56", after := #[{ on := 10, ground := Ground.guard }], guard := some (10, false) }, { dst := some 174, op := Op.load 3 (Operand.tmp 173), type := 3, pos := "law.go:56", after := #[{ on := 12, ground := Ground.data }, { on := 10, ground := Ground.guard }], guard := some (10, false) }, { dst := some 175, op := Op.fieldAddr 35 (Operand.tmp 4) 1, type := 0, pos := "law.go:56", after := #[{ on := 10, ground := Ground.guard }], guard := some (10, false) }, { dst := some 176, op := Op.load 33 (Operand.tmp 175), type := 33, pos := "law.go:56", after := #[{ on := 14, ground := Ground.data }, { on := 10, ground := Ground.guard }], guard := some (10, false) }, { dst := some 177, op := Op.slice 33 (Operand.tmp 176) (some (Operand.const (Value.int IntKind.i64 (1 : Int)))) none none, type := 33, pos := "law.go:56", after := #[{ on := 15, ground := Ground.data }, { on := 10, ground := Ground.guard }], guard := some (10, false) }, { dst := some 178, op := Op.fieldAddr 35 (Operand.tmp 4) 2, type := 0, pos := "law.go:56", after := #[{ on := 10, ground := Ground.guard }], guard := some (10, false) }, { dst := some 179, op := Op.load 3 (Operand.tmp 178), type := 3, pos := "law.go:56", after := #[{ on := 17, ground := Ground.data }, { on := 10, ground := Ground.guard }], guard := some (10, false) }, { dst := some 180, op := Op.build 35 #[(0, Operand.tmp 174), (1, Operand.tmp 177), (2, Operand.tmp 179)], type := 35, pos := "law.go:56", after := #[{ on := 13, ground := Ground.data }, { on := 16, ground := Ground.data }, { on := 18, ground := Ground.data }, { on := 10, ground := Ground.guard }], guard := some (10, false) }, { dst := some 181, op := Op.call { callee := Callee.value (Operand.func 28), args := #[Operand.tmp 172, Operand.tmp 180], argTypes := #[35, 35] }, type := 4, pos := "law.go:56", after := #[{ on := 11, ground := Ground.data }, { on := 19, ground := Ground.data }, { on := 10, ground := Ground.chain }, { on := 10, ground := Ground.guard }], guard := some (10, false) }, { dst := some 182, op := Op.unOp UnOp.not 4 (Operand.tmp 181), type := 4, pos := "law.go:56", after := #[{ on := 20, ground := Ground.data }, { on := 10, ground := Ground.guard }], guard := some (10, false) }, { dst := some 183, op := Op.pick (Operand.tmp 171) (Operand.const (Value.bool true)) (Operand.tmp 182), type := 4, pos := "law.go:56", after := #[{ on := 10, ground := Ground.data }, { on := 21, ground := Ground.data }], guard := none }] true) (Code.cond (Operand.tmp 183) (Code.seq (Code.region 23 #[{ dst := some 6, op := Op.assign (Operand.const (Value.bool false)), type := 4, pos := "law.go:57", after := #[], guard := none }] false) Code.ret) Code.skip)))) (Code.seq (Code.seq (Code.region 24 #[{ dst := some 184, op := Op.move (Operand.tmp 2), type := 9, pos := "law.go:59", after := #[], guard := none }, { dst := some 185, op := Op.call { callee := Callee.builtin Builtin.len, args := #[Operand.tmp 184], argTypes := #[9] }, type := 3, pos := "law.go:59", after := #[{ on := 0, ground := Ground.data }], guard := none }, { dst := some 186, op := Op.binOp BinOp.gtr 3 (Operand.tmp 185) (Operand.const (Value.int IntKind.i64 (114 : Int))) 3, type := 4, pos := "law.go:59", after := #[{ on := 1, ground := Ground.data }], guard := none }] false) (Code.cond (Operand.tmp 186) (Code.seq (Code.region 25 #[{ dst := some 187, op := Op.move (Operand.tmp 11), type := 26, pos := "law.go:60", after := #[], guard := none }, { dst := some 188, op := Op.binOp BinOp.eql 26 (Operand.tmp 187) (Operand.const (Value.int IntKind.i64 (1 : Int))) 26, type := 4, pos := "law.go:60", after := #[{ on := 0, ground := Ground.data }], guard := none }, { dst := some 189, op := Op.move (Operand.tmp 188), type := 4, pos := "law.go:60", after := #[{ on := 1, ground := Ground.data }], guard := none }, { dst := some 190, op := Op.move (Operand.tmp 10), type := 4, pos := "law.go:60", after := #[{ on := 2, ground := Ground.guard }], guard := some (2, true) }, { dst := some 191, op := Op.unOp UnOp.not 4 (Operand.tmp 190), type := 4, pos := "law.go:60", after := #[{ on := 3, ground := Ground.data }, { on := 2, ground := Ground.guard }], guard := some (2, true) }, { dst := some 192, op := Op.pick (Operand.tmp 189) (Operand.tmp 191) (Operand.const (Value.bool false)), type := 4, pos := "law.go:60", after := #[{ on := 2, ground := Ground.data }, { on := 4, ground := Ground.data }], guard := none }, { dst := some 193, op := Op.move (Operand.tmp 192), type := 4, pos := "law.go:60", after := #[{ on := 5, ground := Ground.data }, { on := 2, ground := Ground.chain }], guard := none }, { dst := some 194, op := Op.load 35 (Operand.tmp 9), type := 35, pos := "law.go:60", after := #[{ on := 6, ground := Ground.guard }], guard := some (6, true) }, { dst := some 195, op := Op.load 35 (Operand.tmp 18), type := 35, pos := "law.go:60", after := #[{ on := 6, ground := Ground.guard }], guard := some (6, true) }, { dst := some 196, op := Op.call { callee := Callee.value (Operand.func 28), args := #[Operand.tmp 194, Operand.tmp 195], argTypes := #[35, 35] }, type := 4, pos := "law.go:60", after := #[{ on := 7, ground := Ground.data }, { on := 8, ground := Ground.data }, { on := 6, ground := Ground.chain }, { on := 6, ground := Ground.guard }], guard := some (6, true) }, { dst := some 197, op := Op.pick (Operand.tmp 193) (Operand.tmp 196) (Operand.const (Value.bool false)), type := 4, pos := "law.go:60", after := #[{ on := 6, ground := Ground.data }, { on := 9, ground := Ground.data }], guard := none }, { dst := some 6, op := Op.assign (Operand.tmp 197), type := 4, pos := "law.go:60", after := #[{ on := 10, ground := Ground.data }, { on := 9, ground := Ground.chain }, { on := 0, ground := Ground.phase }, { on := 1, ground := Ground.phase }, { on := 2, ground := Ground.phase }, { on := 3, ground := Ground.phase }, { on := 4, ground := Ground.phase }, { on := 5, ground := Ground.phase }, { on := 6, ground := Ground.phase }, { on := 7, ground := Ground.phase }, { on := 8, ground := Ground.phase }, { on := 9, ground := Ground.phase }, { on := 10, ground := Ground.phase }], guard := none }] false) Code.ret) Code.skip)) (Code.seq (Code.region 26 #[{ dst := some 199, op := Op.load 35 (Operand.tmp 4), type := 35, pos := "law.go:62", after := #[], guard := none }, { dst := some 200, op := Op.move (Operand.tmp 2), type := 9, pos := "law.go:62", after := #[], guard := none }, { dst := some 201, op := Op.call { callee := Callee.value (Operand.func 30), args := #[Operand.tmp 199, Operand.tmp 200], argTypes := #[35, 9] }, type := 49, pos := "law.go:62", after := #[{ on := 0, ground := Ground.data }, { on := 1, ground := Ground.data }], guard := none }, { dst := some 198, op := Op.move (Operand.tmp 201), type := 49, pos := "law.go:62", after := #[{ on := 2, ground := Ground.data }], guard := none }, { dst := some 202, op := Op.extract (Operand.tmp 198) 0, type := 35, pos := "law.go:62", after := #[{ on := 3, ground := Ground.data }], guard := none }, { dst := some 203, op := Op.extract (Operand.tmp 198) 1, type := 4, pos := "law.go:62", after := #[{ on := 3, ground := Ground.data }, { on := 7, ground := Ground.gcOnly Departure.lateStores }], guard := none }, { dst := some 21, op := Op.alloc 35, type := 0, pos := "law.go:62", after := #[], guard := none }, { dst := none, op := Op.store 35 (Operand.tmp 21) (Operand.tmp 202), type := 0, pos := "law.go:62", after := #[{ on := 6, ground := Ground.data }, { on := 4, ground := Ground.data }, { on := 2, ground := Ground.chain }, { on := 0, ground := Ground.phase }, { on := 1, ground := Ground.phase }, { on := 2, ground := Ground.phase }, { on := 3, ground := Ground.phase }, { on := 4, ground := Ground.phase }, { on := 5, ground := Ground.textOnly Departure.lateStores }, { on := 6, ground := Ground.phase }], guard := none }, { dst := some 22, op := Op.assign (Operand.tmp 203), type := 4, pos := "law.go:62", after := #[{ on := 5, ground := Ground.data }, { on := 7, ground := Ground.chain }, { on := 0, ground := Ground.phase }, { on := 1, ground := Ground.phase }, { on := 2, ground := Ground.phase }, { on := 3, ground := Ground.phase }, { on := 4, ground := Ground.phase }, { on := 5, ground := Ground.phase }, { on := 6, ground := Ground.phase }, { on := 7, ground := Ground.phase }], guard := none }] false) (Code.seq (Code.region 27 #[{ dst := some 204, op := Op.move (Operand.tmp 11), type := 26, pos := "law.go:63", after := #[], guard := none }, { dst := some 205, op := Op.binOp BinOp.eql 26 (Operand.tmp 204) (Operand.const (Value.int IntKind.i64 (0 : Int))) 26, type := 4, pos := "law.go:63", after := #[{ on := 0, ground := Ground.data }], guard := none }, { dst := some 206, op := Op.move (Operand.tmp 205), type := 4, pos := "law.go:63", after := #[{ on := 1, ground := Ground.data }], guard := none }, { dst := some 207, op := Op.move (Operand.tmp 10), type := 4, pos := "law.go:63", after := #[{ on := 2, ground := Ground.guard }], guard := some (2, true) }, { dst := some 208, op := Op.move (Operand.tmp 22), type := 4, pos := "law.go:63", after := #[{ on := 2, ground := Ground.guard }], guard := some (2, true) }, { dst := some 209, op := Op.binOp BinOp.eql 4 (Operand.tmp 207) (Operand.tmp 208) 4, type := 4, pos := "law.go:63", after := #[{ on := 3, ground := Ground.data }, { on := 4, ground := Ground.data }, { on := 2, ground := Ground.guard }], guard := some (2, true) }, { dst := some 210, op := Op.pick (Operand.tmp 206) (Operand.tmp 209) (Operand.const (Value.bool false)), type := 4, pos := "law.go:63", after := #[{ on := 2, ground := Ground.data }, { on := 5, ground := Ground.data }], guard := none }, { dst := some 211, op := Op.move (Operand.tmp 210), type := 4, pos := "law.go:63", after := #[{ on := 6, ground := Ground.data }, { on := 2, ground := Ground.chain }], guard := none }, { dst := some 212, op := Op.load 35 (Operand.tmp 9), type := 35, pos := "law.go:63", after := #[{ on := 7, ground := Ground.guard }], guard := some (7, true) }, { dst := some 213, op := Op.load 35 (Operand.tmp 21), type := 35, pos := "law.go:63", after := #[{ on := 7, ground := Ground.guard }], guard := some (7, true) }, { dst := some 214, op := Op.call { callee := Callee.value (Operand.func 28), args := #[Operand.tmp 212, Operand.tmp 213], argTypes := #[35, 35] }, type := 4, pos := "law.go:63", after := #[{ on := 8, ground := Ground.data }, { on := 9, ground := Ground.data }, { on := 7, ground := Ground.chain }, { on := 7, ground := Ground.guard }], guard := some (7, true) }, { dst := some 215, op := Op.pick (Operand.tmp 211) (Operand.tmp 214) (Operand.const (Value.bool false)), type := 4, pos := "law.go:63", after := #[{ on := 7, ground := Ground.data }, { on := 10, ground := Ground.data }], guard := none }, { dst := some 6, op := Op.assign (Operand.tmp 215), type := 4, pos := "law.go:63", after := #[{ on := 11, ground := Ground.data }, { on := 10, ground := Ground.chain }, { on := 0, ground := Ground.phase }, { on := 1, ground := Ground.phase }, { on := 2, ground := Ground.phase }, { on := 3, ground := Ground.phase }, { on := 4, ground := Ground.phase }, { on := 5, ground := Ground.phase }, { on := 6, ground := Ground.phase }, { on := 7, ground := Ground.phase }, { on := 8, ground := Ground.phase }, { on := 9, ground := Ground.phase }, { on := 10, ground := Ground.phase }, { on := 11, ground := Ground.phase }], guard := none }] false) Code.ret)))))))) (bodyPost Try.prog Try.f5 fun e w' => e = Ending.returned (Value.bool r) ∧ Below (Array.size w.heap) w w') a_ w_ → K1 a_ w_)
    (K0 : Act → World → Prop)
    (hK0 : ∀ (a_ : Act) (w_ : World), Code.wp Try.prog (Code.cond (Operand.tmp 63) (Code.seq (Code.region 8 #[{ dst := some 6, op := Op.assign (Operand.const (Value.bool false)), type := 4, pos := "law.go:36", after := #[], guard := none }] false) Code.ret) Code.skip) (Exit.then K1 (bodyPost Try.prog Try.f5 fun e w' => e = Ending.returned (Value.bool r) ∧ Below (Array.size w.heap) w w')) a_ w_ → K0 a_ w_)
    (wc : World)
    (u23 u24 u25 u26 u27 u28 u29 u30 u31 u32 u33 u34 u35 u36 u37 u38 u39 u40 u41 u42 u43 u44 u45 u46 u47 u48 u49 u50 u51 u52 u53 u54 u55 u56 u57 u58 u59 u60 u61 u62 u64 u65 u66 u67 u68 u69 u70 u71 u72 u73 u74 u75 u76 u77 u78 u79 u80 u81 u82 u83 u84 u85 u86 u87 u88 u89 u90 u91 u92 u93 u94 u95 u96 u97 u98 u99 u100 u101 u102 u103 u104 u105 u106 u107 u108 u109 u110 u111 u112 u113 u114 u115 u116 u117 u118 u119 u120 u121 u122 u123 u124 u125 u126 u127 u128 u129 u130 u131 u132 u133 u134 u135 u136 u137 u138 u139 u140 u141 u142 u143 u144 u145 u146 u147 u148 u149 u150 u151 u152 u153 u154 u155 u156 u157 u158 u159 u160 u161 u162 u163 u164 u165 u166 u167 u168 u169 u170 u171 u172 u173 u174 u175 u176 u177 u178 u179 u180 u181 u182 u183 u184 u185 u186 u187 u188 u189 u190 u191 u192 u193 u194 u195 u196 u197 u198 u199 u200 u201 u202 u203 u204 u205 u206 u207 u208 u209 u210 u211 u212 u213 u214 u215 : Value)
    (kq : Nat)
    (x63_11 : Bool)
    (HA : Aside0 (j0 kq a0 (ByteArray.extract a2 0 (Int.toNat ji5)) t243 t250 t251 t258 t259 t266 t267 x63_11 t233 t234 t237 t238 t239 t242 t245 t246 t249 t253 t254 t257 t261 t262 t265 (0 : Int) (0 : Int) = some r))
    (HJ11 : Aside0 (kq ≤ k))
    (HO_233001 : Aside0 (Kd.R Kd.string 9 wc (Array.size w.heap) (fun k_ => some k_ ≠ Value.ownBlock (Value.slice Ao24 (List.length t239) co24) ∧ some k_ ≠ Value.ownBlock (Value.slice Ao50 (List.length t262) co50)) (Value.slice Ao17 (List.length t234) co17) t234))
    (HO_245001 : Aside0 (Kd.R Kd.string 9 wc (Array.size w.heap) (fun k_ => some k_ ≠ Value.ownBlock (Value.slice Ao17 (List.length t234) co17) ∧ some k_ ≠ Value.ownBlock (Value.slice Ao50 (List.length t262) co50)) (Value.slice Ao24 (List.length t239) co24) t239))
    (HO_253001 : Aside0 (Kd.V Kd.string 9 wc (Array.size w.heap) (fun k_ => some k_ ≠ Value.ownBlock (Value.slice Ao24 (List.length t239) co24) ∧ some k_ ≠ Value.ownBlock (Value.slice Ao50 (List.length t262) co50) ∧ k_ ≠ gb232 ∧ k_ ≠ gb244 ∧ k_ ≠ gb252 ∧ k_ ≠ gb260 ∧ k_ ≠ gb268 ∧ k_ ≠ gb269) (Value.slice Ao32 (List.length t246) co32) t246))
    (HO_261001 : Aside0 (Kd.V Kd.string 9 wc (Array.size w.heap) (fun k_ => some k_ ≠ Value.ownBlock (Value.slice Ao24 (List.length t239) co24) ∧ some k_ ≠ Value.ownBlock (Value.slice Ao50 (List.length t262) co50) ∧ k_ ≠ gb232 ∧ k_ ≠ gb244 ∧ k_ ≠ gb252 ∧ k_ ≠ gb260 ∧ k_ ≠ gb268 ∧ k_ ≠ gb269) (Value.slice Ao41 (List.length t254) co41) t254))
    (HO_269001 : Aside0 (Kd.R Kd.string 9 wc (Array.size w.heap) (fun k_ => some k_ ≠ Value.ownBlock (Value.slice Ao17 (List.length t234) co17) ∧ some k_ ≠ Value.ownBlock (Value.slice Ao24 (List.length t239) co24)) (Value.slice Ao50 (List.length t262) co50) t262))
    (BK232 : Aside0 (wc.heap[gb232]? = some (Obj.cells #[Value.int IntKind.i64 t233, Value.slice Ao17 (List.length t234) co17, Value.int IntKind.i64 t237] 35)))
    (BK244 : Aside0 (wc.heap[gb244]? = some (Obj.cells #[Value.int IntKind.i64 t238, Value.slice Ao24 (List.length t239) co24, Value.int IntKind.i64 t242] 35)))
    (BK252 : Aside0 (wc.heap[gb252]? = some (Obj.cells #[Value.int IntKind.i64 t245, Value.slice Ao32 (List.length t246) co32, Value.int IntKind.i64 t249] 35)))
    (BK260 : Aside0 (wc.heap[gb260]? = some (Obj.cells #[Value.int IntKind.i64 t253, Value.slice Ao41 (List.length t254) co41, Value.int IntKind.i64 t257] 35)))
    (BK268 : Aside0 (wc.heap[gb268]? = some (Obj.cells #[Value.int IntKind.i64 t261, Value.slice Ao50 (List.length t262) co50, Value.int IntKind.i64 t265] 35)))
    (BK269 : Aside0 (wc.heap[gb269]? = some (Obj.cells #[Value.int IntKind.i64 (0 : Int), Value.slice none 0 0, Value.int IntKind.i64 (0 : Int)] 35)))
    (HB : Aside0 (Below (Array.size w.heap) w wc)) :
    K0 { tmps := #[Value.int IntKind.i64 a0, Value.agg #[Value.int IntKind.i64 a1_0, Value.slice A1_1 (List.length l1_1) c1_1, Value.int IntKind.i64 a1_2], Value.string (ByteArray.extract a2 0 (Int.toNat ji5)), undef, Value.pointer (some { block := gb232, off := 0 }), undef, Value.bool false, Value.pointer (some { block := gb244, off := 0 }), Value.int IntKind.i64 t243, Value.pointer (some { block := gb252, off := 0 }), Value.bool t250, Value.int IntKind.i64 t251, Value.pointer (some { block := gb260, off := 0 }), Value.string t258, Value.int IntKind.i64 t259, Value.pointer (some { block := gb268, off := 0 }), Value.int IntKind.i64 t266, Value.int IntKind.i64 t267, Value.pointer (some { block := gb269, off := 0 }), undef, undef, undef, undef, u23, u24, u25, u26, u27, u28, u29, u30, u31, u32, u33, u34, u35, u36, u37, u38, u39, u40, u41, u42, u43, u44, u45, u46, u47, u48, u49, u50, u51, u52, u53, u54, u55, u56, u57, u58, u59, u60, u61, u62, Value.bool x63_11, u64, u65, u66, u67, u68, u69, u70, u71, u72, u73, u74, u75, u76, u77, u78, u79, u80, u81, u82, u83, u84, u85, u86, u87, u88, u89, u90, u91, u92, u93, u94, u95, u96, u97, u98, u99, u100, u101, u102, u103, u104, u105, u106, u107, u108, u109, u110, u111, u112, u113, u114, u115, u116, u117, u118, u119, u120, u121, u122, u123, u124, u125, u126, u127, u128, u129, u130, u131, u132, u133, u134, u135, u136, u137, u138, u139, u140, u141, u142, u143, u144, u145, u146, u147, u148, u149, u150, u151, u152, u153, u154, u155, u156, u157, u158, u159, u160, u161, u162, u163, u164, u165, u166, u167, u168, u169, u170, u171, u172, u173, u174, u175, u176, u177, u178, u179, u180, u181, u182, u183, u184, u185, u186, u187, u188, u189, u190, u191, u192, u193, u194, u195, u196, u197, u198, u199, u200, u201, u202, u203, u204, u205, u206, u207, u208, u209, u210, u211, u212, u213, u214, u215], defers := [] } wc := by
  cases kq with
  | zero => exact absurd HA.out (by simp [footwaylaw09_QueueTells.j0])
  | succ kj11 =>
    have H := HA.out
    clear HA
    simp only [footwaylaw09_QueueTells.j0] at H
    by_cases c71 : x63_11 = true
    · subst c71
      have H1 : (some false) = some r := by rw [if_pos rfl] at H; exact H
      clear H
      have H := H1
      clear H1
      obtain rfl := Option.some.inj H
      go_wp2
      go_ret
      exact ⟨by first | rfl | (simp [errW_none, errW_some] <;> rfl) | (simp only [← hji5]; first | rfl | (simp [errW_none, errW_some] <;> rfl)) | (simp [*, errW_none, errW_some] <;> rfl), by repeat (first | (with_reducible first | exact HB.out | apply below_alloc | apply pw_below_drewN | apply below_drew1 | refine below_set ?_ GE232.out | refine below_set ?_ GE244.out | refine below_set ?_ GE252.out | refine below_set ?_ GE260.out | refine below_set ?_ GE268.out | refine below_set ?_ GE269.out) | exact HB.out)⟩
    · replace c71 := Bool.eq_false_iff.mpr c71
      subst c71
      have H1 : (if a0 < 1 then (footwaylaw09_QueueTells.j1 kj11 a0 (a2.extract 0 ((ji5) : Int).toNat) t243 t250 t251 t258 t259 t266 t267 true t233 t234 t237 t238 t239 t242 t245 t246 t249 t253 t254 t257 t261 t262 t265 0 0) else (footwaylaw09_QueueTells.j1 kj11 a0 (a2.extract 0 ((ji5) : Int).toNat) t243 t250 t251 t258 t259 t266 t267 (decide (a0 > 32)) t233 t234 t237 t238 t239 t242 t245 t246 t249 t253 t254 t257 t261 t262 t265 0 0)) = some r := by rw [if_neg (show ¬ (false = true) by decide)] at H; exact H
      clear H
      have H := H1
      clear H1
      have HC72 := Aside0.mk H
      clear H
      go_upto_region 9 with (fail)
      go_cut [69] (fun v69 wc => ∃ (kq : Nat) (x69_71 : Bool), v69 = .bool x69_71 ∧ Aside0 (footwaylaw09_QueueTells.j1 kq a0 (a2.extract 0 ((ji5) : Int).toNat) t243 t250 t251 t258 t259 t266 t267 x69_71 t233 t234 t237 t238 t239 t242 t245 t246 t249 t253 t254 t257 t261 t262 t265 0 0 = some r) ∧ Aside0 (kq ≤ kj11) ∧ Aside0 (Kd.R Kd.string 9 wc w.heap.size (fun k_ => some k_ ≠ ((.slice Ao24 t239.length co24) : Value).ownBlock ∧ some k_ ≠ ((.slice Ao50 t262.length co50) : Value).ownBlock) (.slice Ao17 t234.length co17) t234) ∧ Aside0 (Kd.R Kd.string 9 wc w.heap.size (fun k_ => some k_ ≠ ((.slice Ao17 t234.length co17) : Value).ownBlock ∧ some k_ ≠ ((.slice Ao50 t262.length co50) : Value).ownBlock) (.slice Ao24 t239.length co24) t239) ∧ Aside0 (Kd.V Kd.string 9 wc w.heap.size (fun k_ => some k_ ≠ ((.slice Ao24 t239.length co24) : Value).ownBlock ∧ some k_ ≠ ((.slice Ao50 t262.length co50) : Value).ownBlock ∧ k_ ≠ gb232 ∧ k_ ≠ gb244 ∧ k_ ≠ gb252 ∧ k_ ≠ gb260 ∧ k_ ≠ gb268 ∧ k_ ≠ gb269) (.slice Ao32 t246.length co32) t246) ∧ Aside0 (Kd.V Kd.string 9 wc w.heap.size (fun k_ => some k_ ≠ ((.slice Ao24 t239.length co24) : Value).ownBlock ∧ some k_ ≠ ((.slice Ao50 t262.length co50) : Value).ownBlock ∧ k_ ≠ gb232 ∧ k_ ≠ gb244 ∧ k_ ≠ gb252 ∧ k_ ≠ gb260 ∧ k_ ≠ gb268 ∧ k_ ≠ gb269) (.slice Ao41 t254.length co41) t254) ∧ Aside0 (Kd.R Kd.string 9 wc w.heap.size (fun k_ => some k_ ≠ ((.slice Ao17 t234.length co17) : Value).ownBlock ∧ some k_ ≠ ((.slice Ao24 t239.length co24) : Value).ownBlock) (.slice Ao50 t262.length co50) t262) ∧ Aside0 (wc.heap[gb232]? = some (.cells #[.int .i64 t233, (.slice Ao17 t234.length co17), .int .i64 t237] 35 (0, 0))) ∧ Aside0 (wc.heap[gb244]? = some (.cells #[.int .i64 t238, (.slice Ao24 t239.length co24), .int .i64 t242] 35 (0, 0))) ∧ Aside0 (wc.heap[gb252]? = some (.cells #[.int .i64 t245, (.slice Ao32 t246.length co32), .int .i64 t249] 35 (0, 0))) ∧ Aside0 (wc.heap[gb260]? = some (.cells #[.int .i64 t253, (.slice Ao41 t254.length co41), .int .i64 t257] 35 (0, 0))) ∧ Aside0 (wc.heap[gb268]? = some (.cells #[.int .i64 t261, (.slice Ao50 t262.length co50), .int .i64 t265] 35 (0, 0))) ∧ Aside0 (wc.heap[gb269]? = some (.cells #[.int .i64 0, (.slice none 0 0), .int .i64 0] 35 (0, 0))) ∧ Aside0 (Below w.heap.size w wc))
      case first =>
       as_aux_lemma =>
        have H := HC72.out
        clear HC72
        by_cases c73 : a0 < 1
        · rw [if_pos c73] at H
          have c73b0 : decide (a0 < 1) = true := decide_eq_true c73
          clear c73
          (first | rw [c73b0] | (simp only [i64_w, i32_w]; rw [c73b0]) | skip)
          have H' := Aside0.mk H
          clear H
          go_wp2
          go_meet
          case rel => exact ⟨_, (true), (by first | rfl | (simp; done) | (simp [*]; done)), H', ⟨by have := HJ11.out; first | omega | exact Nat.le_refl _⟩, ⟨by (with_reducible repeat (first | apply Kd.R_alloc | apply Kd.R_drewN | apply Kd.R_drew)); exact HO_233001.out⟩, ⟨by (with_reducible repeat (first | apply Kd.R_alloc | apply Kd.R_drewN | apply Kd.R_drew)); exact HO_245001.out⟩, ⟨by (with_reducible repeat (first | apply Kd.V_alloc | apply Kd.V_drewN | apply Kd.V_drew)); exact HO_253001.out⟩, ⟨by (with_reducible repeat (first | apply Kd.V_alloc | apply Kd.V_drewN | apply Kd.V_drew)); exact HO_261001.out⟩, ⟨by (with_reducible repeat (first | apply Kd.R_alloc | apply Kd.R_drewN | apply Kd.R_drew)); exact HO_269001.out⟩, ⟨by (with_reducible repeat (first | refine blk_drewN ?_ _ | refine blk_drew ?_ | refine blk_alloc ?_ _)); exact BK232.out⟩, ⟨by (with_reducible repeat (first | refine blk_drewN ?_ _ | refine blk_drew ?_ | refine blk_alloc ?_ _)); exact BK244.out⟩, ⟨by (with_reducible repeat (first | refine blk_drewN ?_ _ | refine blk_drew ?_ | refine blk_alloc ?_ _)); exact BK252.out⟩, ⟨by (with_reducible repeat (first | refine blk_drewN ?_ _ | refine blk_drew ?_ | refine blk_alloc ?_ _)); exact BK260.out⟩, ⟨by (with_reducible repeat (first | refine blk_drewN ?_ _ | refine blk_drew ?_ | refine blk_alloc ?_ _)); exact BK268.out⟩, ⟨by (with_reducible repeat (first | refine blk_drewN ?_ _ | refine blk_drew ?_ | refine blk_alloc ?_ _)); exact BK269.out⟩, ⟨by repeat (first | (with_reducible first | exact HB.out | apply below_alloc | apply pw_below_drewN | apply below_drew1 | refine below_set ?_ GE232.out | refine below_set ?_ GE244.out | refine below_set ?_ GE252.out | refine below_set ?_ GE260.out | refine below_set ?_ GE268.out | refine below_set ?_ GE269.out) | exact HB.out)⟩⟩
        · rw [if_neg c73] at H
          have c73b0 : decide (a0 < 1) = false := decide_eq_false c73
          clear c73
          (first | rw [c73b0] | (simp only [i64_w, i32_w]; rw [c73b0]) | skip)
          have H' := Aside0.mk H
          clear H
          go_wp2
          go_meet
          case rel => exact ⟨_, (decide (a0 > 32)), (by first | rfl | (simp; done) | (simp [*]; done)), H', ⟨by have := HJ11.out; first | omega | exact Nat.le_refl _⟩, ⟨by (with_reducible repeat (first | apply Kd.R_alloc | apply Kd.R_drewN | apply Kd.R_drew)); exact HO_233001.out⟩, ⟨by (with_reducible repeat (first | apply Kd.R_alloc | apply Kd.R_drewN | apply Kd.R_drew)); exact HO_245001.out⟩, ⟨by (with_reducible repeat (first | apply Kd.V_alloc | apply Kd.V_drewN | apply Kd.V_drew)); exact HO_253001.out⟩, ⟨by (with_reducible repeat (first | apply Kd.V_alloc | apply Kd.V_drewN | apply Kd.V_drew)); exact HO_261001.out⟩, ⟨by (with_reducible repeat (first | apply Kd.R_alloc | apply Kd.R_drewN | apply Kd.R_drew)); exact HO_269001.out⟩, ⟨by (with_reducible repeat (first | refine blk_drewN ?_ _ | refine blk_drew ?_ | refine blk_alloc ?_ _)); exact BK232.out⟩, ⟨by (with_reducible repeat (first | refine blk_drewN ?_ _ | refine blk_drew ?_ | refine blk_alloc ?_ _)); exact BK244.out⟩, ⟨by (with_reducible repeat (first | refine blk_drewN ?_ _ | refine blk_drew ?_ | refine blk_alloc ?_ _)); exact BK252.out⟩, ⟨by (with_reducible repeat (first | refine blk_drewN ?_ _ | refine blk_drew ?_ | refine blk_alloc ?_ _)); exact BK260.out⟩, ⟨by (with_reducible repeat (first | refine blk_drewN ?_ _ | refine blk_drew ?_ | refine blk_alloc ?_ _)); exact BK268.out⟩, ⟨by (with_reducible repeat (first | refine blk_drewN ?_ _ | refine blk_drew ?_ | refine blk_alloc ?_ _)); exact BK269.out⟩, ⟨by repeat (first | (with_reducible first | exact HB.out | apply below_alloc | apply pw_below_drewN | apply below_drew1 | refine below_set ?_ GE232.out | refine below_set ?_ GE244.out | refine below_set ?_ GE252.out | refine below_set ?_ GE260.out | refine below_set ?_ GE268.out | refine below_set ?_ GE269.out) | exact HB.out)⟩⟩
      case rest =>
       as_aux_lemma =>
        clear HC72
        try clear c1
        try clear c2
        try clear p2
        try clear c3
        try clear c4
        try clear c5
        try clear c6
        try clear c7
        try clear c21
        try clear c22
        try clear c23
        try clear c24
        try clear c25
        try clear c26
        try clear c27
        try clear c29
        try clear c30
        try clear c37
        try clear c38
        try clear c39
        try clear c45
        try clear c46
        try clear c47
        try clear c48
        try clear c52
        try clear c53
        try clear c54
        try clear c55
        try clear c56
        try clear c60
        try clear c60b0
        try clear c60b1
        try clear c60b2
        try clear c71
        try clear c73
        try clear c73b0
        try clear hcz23_0
        try clear hcz23_1
        try clear hcz23_2
        try clear hcz26_0
        try clear hcz26_1
        try clear hcz26_2
        try clear hcz31_0
        try clear hcz31_1
        try clear hcz31_2
        try clear hcz34_0
        try clear hcz34_1
        try clear hcz34_2
        try clear hcz40_0
        try clear hcz40_1
        try clear hcz40_2
        try clear hcz42_0
        try clear hcz42_1
        try clear hcz42_2
        try clear hcz49_0
        try clear hcz49_1
        try clear hcz49_2
        try clear hcz57_0
        try clear hcz57_1
        try clear hcz57_2
        try clear hfz23_0
        try clear hfz23_1
        try clear hfz23_2
        try clear hfz26_0
        try clear hfz26_1
        try clear hfz26_2
        try clear hfz31_0
        try clear hfz31_1
        try clear hfz31_2
        try clear hfz34_0
        try clear hfz34_1
        try clear hfz34_2
        try clear hfz40_0
        try clear hfz40_1
        try clear hfz40_2
        try clear hfz42_0
        try clear hfz42_1
        try clear hfz42_2
        try clear hfz49_0
        try clear hfz49_1
        try clear hfz49_2
        try clear hfz57_0
        try clear hfz57_1
        try clear hfz57_2
        try clear p2
        obtain ⟨kq, x69_71, rfl, HA, HJ71, HO_233001, HO_245001, HO_253001, HO_261001, HO_269001, BK232, BK244, BK252, BK260, BK268, BK269, HB⟩ := hcut
        cases kq with
        | zero => exact absurd HA.out (by simp [footwaylaw09_QueueTells.j1])
        | succ kj71 =>
          have H := HA.out
          clear HA
          simp only [footwaylaw09_QueueTells.j1] at H
          have HC74 := Aside0.mk H
          clear H
          go_upto_if 69 with (fail)
          go_cut [] (fun wc => ∃ (kq : Nat), Aside0 (footwaylaw09_QueueTells.j2 kq (a2.extract 0 ((ji5) : Int).toNat) t250 t251 t258 t259 t266 t267 t233 t234 t237 t245 t246 t249 t253 t254 t257 t261 t262 t265 0 0 = some r) ∧ Aside0 (kq ≤ kj71) ∧ Aside0 (Kd.R Kd.string 9 wc w.heap.size (fun k_ => some k_ ≠ ((.slice Ao24 t239.length co24) : Value).ownBlock ∧ some k_ ≠ ((.slice Ao50 t262.length co50) : Value).ownBlock) (.slice Ao17 t234.length co17) t234) ∧ Aside0 (Kd.R Kd.string 9 wc w.heap.size (fun k_ => some k_ ≠ ((.slice Ao17 t234.length co17) : Value).ownBlock ∧ some k_ ≠ ((.slice Ao50 t262.length co50) : Value).ownBlock) (.slice Ao24 t239.length co24) t239) ∧ Aside0 (Kd.V Kd.string 9 wc w.heap.size (fun k_ => some k_ ≠ ((.slice Ao24 t239.length co24) : Value).ownBlock ∧ some k_ ≠ ((.slice Ao50 t262.length co50) : Value).ownBlock ∧ k_ ≠ gb232 ∧ k_ ≠ gb244 ∧ k_ ≠ gb252 ∧ k_ ≠ gb260 ∧ k_ ≠ gb268 ∧ k_ ≠ gb269) (.slice Ao32 t246.length co32) t246) ∧ Aside0 (Kd.V Kd.string 9 wc w.heap.size (fun k_ => some k_ ≠ ((.slice Ao24 t239.length co24) : Value).ownBlock ∧ some k_ ≠ ((.slice Ao50 t262.length co50) : Value).ownBlock ∧ k_ ≠ gb232 ∧ k_ ≠ gb244 ∧ k_ ≠ gb252 ∧ k_ ≠ gb260 ∧ k_ ≠ gb268 ∧ k_ ≠ gb269) (.slice Ao41 t254.length co41) t254) ∧ Aside0 (Kd.R Kd.string 9 wc w.heap.size (fun k_ => some k_ ≠ ((.slice Ao17 t234.length co17) : Value).ownBlock ∧ some k_ ≠ ((.slice Ao24 t239.length co24) : Value).ownBlock) (.slice Ao50 t262.length co50) t262) ∧ Aside0 (wc.heap[gb232]? = some (.cells #[.int .i64 t233, (.slice Ao17 t234.length co17), .int .i64 t237] 35 (0, 0))) ∧ Aside0 (wc.heap[gb244]? = some (.cells #[.int .i64 t238, (.slice Ao24 t239.length co24), .int .i64 t242] 35 (0, 0))) ∧ Aside0 (wc.heap[gb252]? = some (.cells #[.int .i64 t245, (.slice Ao32 t246.length co32), .int .i64 t249] 35 (0, 0))) ∧ Aside0 (wc.heap[gb260]? = some (.cells #[.int .i64 t253, (.slice Ao41 t254.length co41), .int .i64 t257] 35 (0, 0))) ∧ Aside0 (wc.heap[gb268]? = some (.cells #[.int .i64 t261, (.slice Ao50 t262.length co50), .int .i64 t265] 35 (0, 0))) ∧ Aside0 (wc.heap[gb269]? = some (.cells #[.int .i64 0, (.slice none 0 0), .int .i64 0] 35 (0, 0))) ∧ Aside0 (Below w.heap.size w wc))
          case first =>
           as_aux_lemma =>
            have H := HC74.out
            clear HC74
            by_cases c75 : x69_71 = true
            ·
             as_aux_lemma =>
              subst c75
              have H1 : (if t243 = 2 then ((footwayref09_Same.f kj71 t238 t239 t242 0 ([] : List ByteArray) 0).bind fun t273 => (if t273 = true then (footwaylaw09_QueueTells.j2 kj71 (a2.extract 0 ((ji5) : Int).toNat) t250 t251 t258 t259 t266 t267 t233 t234 t237 t245 t246 t249 t253 t254 t257 t261 t262 t265 0 0) else (some false))) else (some false)) = some r := by rw [if_pos rfl] at H; exact H
              clear H
              have H := H1
              clear H1
              by_cases c76 : t243 = 2
              · rw [if_pos c76] at H
                have c76b0 : (t243 == 2) = true := beq_iff_eq.mpr c76
                have c76b1 : (t243 != 2) = false := bne_eq_false_iff_eq.mpr c76
                clear c76
                (first | rw [c76b0] | (simp only [i64_w, i32_w]; rw [c76b0]) | skip)
                replace H := Option.bind_eq_some_iff.mp H
                obtain ⟨t273, A770, H⟩ := H
                replace H : (if t273 = true then (footwaylaw09_QueueTells.j2 kj71 (a2.extract 0 ((ji5) : Int).toNat) t250 t251 t258 t259 t266 t267 t233 t234 t237 t245 t246 t249 t253 t254 t257 t261 t262 t265 0 0) else (some false)) = some r := H
                have A77 := Aside0.mk A770
                clear A770
                by_cases c78 : t273 = true
                · subst c78
                  have H1 : (footwaylaw09_QueueTells.j2 kj71 (a2.extract 0 ((ji5) : Int).toNat) t250 t251 t258 t259 t266 t267 t233 t234 t237 t245 t246 t249 t253 t254 t257 t261 t262 t265 0 0) = some r := by rw [if_pos rfl] at H; exact H
                  clear H
                  have H := H1
                  clear H1
                  have H' := Aside0.mk H
                  clear H
                  have hnb79 := NB244_232.out
                  have hnc79 := NB232_244.out
                  have hnb80 := NB244_252.out
                  have hnc80 := NB252_244.out
                  have hnb81 := NB244_260.out
                  have hnc81 := NB260_244.out
                  have hnb82 := NB244_268.out
                  have hnc82 := NB268_244.out
                  have hnb83 := NB244_269.out
                  have hnc83 := NB269_244.out
                  have hcz84_0 : wc.cell? ⟨gb244, 0, none⟩ = some (.int .i64 t238) := (blk_cell BK244.out 0).trans rfl
                  have hcz84_1 : wc.cell? ⟨gb244, 1, none⟩ = some (.slice Ao24 t239.length co24) := (blk_cell BK244.out 1).trans rfl
                  have hcz84_2 : wc.cell? ⟨gb244, 2, none⟩ = some (.int .i64 t242) := (blk_cell BK244.out 2).trans rfl
                  have hfz84_0 := blk_frozen BK244.out 0
                  have hfz84_1 := blk_frozen BK244.out 1
                  have hfz84_2 := blk_frozen BK244.out 2
                  have hnb85 := NB269_232.out
                  have hnc85 := NB232_269.out
                  have hnb86 := NB269_252.out
                  have hnc86 := NB252_269.out
                  have hnb87 := NB269_260.out
                  have hnc87 := NB260_269.out
                  have hnb88 := NB269_268.out
                  have hnc88 := NB268_269.out
                  have hcz89_0 : wc.cell? ⟨gb269, 0, none⟩ = some (.int .i64 0) := (blk_cell BK269.out 0).trans rfl
                  have hcz89_1 : wc.cell? ⟨gb269, 1, none⟩ = some (.slice none 0 0) := (blk_cell BK269.out 1).trans rfl
                  have hcz89_2 : wc.cell? ⟨gb269, 2, none⟩ = some (.int .i64 0) := (blk_cell BK269.out 2).trans rfl
                  have hfz89_0 := blk_frozen BK269.out 0
                  have hfz89_1 := blk_frozen BK269.out 1
                  have hfz89_2 := blk_frozen BK269.out 2
                  go_wp2_with (first | (go_at_call 28; (refine (footwayref09_Same.calls kj71 t238 _ _ t239 t242 0 _ _ ([] : List ByteArray) 0 true _ ?side1 ?side2 ?side3 ?side4 A77.out).mono ?_); (case side1 => repeat (first | exact (Kd.R_reads' HO_245001.out).2.2 | (with_reducible refine Kd.C_alloc ?_ _) | (with_reducible refine Kd.C_drewN ?_ _) | (with_reducible refine Kd.C_drew ?_))); (case side2 => exact (Kd.R_reads' HO_245001.out).2.1); (case side3 => exact Kd.C_nil _ _); (case side4 => exact Nat.le_refl _); rintro e w90 ⟨rfl, hb⟩; have n0_ := Aside0.mk (Kd.R_below (by (with_reducible repeat (first | apply Kd.R_alloc | apply Kd.R_drewN | apply Kd.R_drew)); exact HO_233001.out) hb); have n1_ := Aside0.mk (Kd.R_below (by (with_reducible repeat (first | apply Kd.R_alloc | apply Kd.R_drewN | apply Kd.R_drew)); exact HO_245001.out) hb); have n2_ := Aside0.mk (Kd.V_below (by (with_reducible repeat (first | apply Kd.V_alloc | apply Kd.V_drewN | apply Kd.V_drew)); exact HO_253001.out) hb); have n3_ := Aside0.mk (Kd.V_below (by (with_reducible repeat (first | apply Kd.V_alloc | apply Kd.V_drewN | apply Kd.V_drew)); exact HO_261001.out) hb); have n4_ := Aside0.mk (Kd.R_below (by (with_reducible repeat (first | apply Kd.R_alloc | apply Kd.R_drewN | apply Kd.R_drew)); exact HO_269001.out) hb); have n5_ := Aside0.mk (blk_below (g := gb232) (o := .cells #[.int .i64 t233, .slice Ao17 t234.length co17, .int .i64 t237] 35 (0, 0)) (by (with_reducible repeat (first | refine blk_drewN ?_ _ | refine blk_drew ?_ | refine blk_alloc ?_ _)); exact BK232.out) hb); have n6_ := Aside0.mk (blk_below (g := gb244) (o := .cells #[.int .i64 t238, .slice Ao24 t239.length co24, .int .i64 t242] 35 (0, 0)) (by (with_reducible repeat (first | refine blk_drewN ?_ _ | refine blk_drew ?_ | refine blk_alloc ?_ _)); exact BK244.out) hb); have n7_ := Aside0.mk (blk_below (g := gb252) (o := .cells #[.int .i64 t245, .slice Ao32 t246.length co32, .int .i64 t249] 35 (0, 0)) (by (with_reducible repeat (first | refine blk_drewN ?_ _ | refine blk_drew ?_ | refine blk_alloc ?_ _)); exact BK252.out) hb); have n8_ := Aside0.mk (blk_below (g := gb260) (o := .cells #[.int .i64 t253, .slice Ao41 t254.length co41, .int .i64 t257] 35 (0, 0)) (by (with_reducible repeat (first | refine blk_drewN ?_ _ | refine blk_drew ?_ | refine blk_alloc ?_ _)); exact BK260.out) hb); have n9_ := Aside0.mk (blk_below (g := gb268) (o := .cells #[.int .i64 t261, .slice Ao50 t262.length co50, .int .i64 t265] 35 (0, 0)) (by (with_reducible repeat (first | refine blk_drewN ?_ _ | refine blk_drew ?_ | refine blk_alloc ?_ _)); exact BK268.out) hb); have n10_ := Aside0.mk (blk_below (g := gb269) (o := .cells #[.int .i64 0, .slice none 0 0, .int .i64 0] 35 (0, 0)) (by (with_reducible repeat (first | refine blk_drewN ?_ _ | refine blk_drew ?_ | refine blk_alloc ?_ _)); exact BK269.out) hb); have n11_ := Aside0.mk (below_step (by repeat (first | (with_reducible first | exact HB.out | apply below_alloc | apply pw_below_drewN | apply below_drew1 | refine below_set ?_ GE232.out | refine below_set ?_ GE244.out | refine below_set ?_ GE252.out | refine below_set ?_ GE260.out | refine below_set ?_ GE268.out | refine below_set ?_ GE269.out) | exact HB.out)) hb); clear HO_233001; clear HO_245001; clear HO_253001; clear HO_261001; clear HO_269001; clear BK232; clear BK244; clear BK252; clear BK260; clear BK268; clear BK269; clear HB; have HO_233001 := n0_; have HO_245001 := n1_; have HO_253001 := n2_; have HO_261001 := n3_; have HO_269001 := n4_; have BK232 := n5_; have BK244 := n6_; have BK252 := n7_; have BK260 := n8_; have BK268 := n9_; have BK269 := n10_; have HB := n11_; clear n0_ n1_ n2_ n3_ n4_ n5_ n6_ n7_ n8_ n9_ n10_ n11_; (try clear hb); (try clear hb2); (try clear hk); (try clear hi)))
                  go_meet
                  case rel => exact ⟨_, H', ⟨by have := HJ11.out; have := HJ71.out; first | omega | exact Nat.le_refl _⟩, ⟨by (with_reducible repeat (first | apply Kd.R_alloc | apply Kd.R_drewN | apply Kd.R_drew)); exact HO_233001.out⟩, ⟨by (with_reducible repeat (first | apply Kd.R_alloc | apply Kd.R_drewN | apply Kd.R_drew)); exact HO_245001.out⟩, ⟨by (with_reducible repeat (first | apply Kd.V_alloc | apply Kd.V_drewN | apply Kd.V_drew)); exact HO_253001.out⟩, ⟨by (with_reducible repeat (first | apply Kd.V_alloc | apply Kd.V_drewN | apply Kd.V_drew)); exact HO_261001.out⟩, ⟨by (with_reducible repeat (first | apply Kd.R_alloc | apply Kd.R_drewN | apply Kd.R_drew)); exact HO_269001.out⟩, ⟨by (with_reducible repeat (first | refine blk_drewN ?_ _ | refine blk_drew ?_ | refine blk_alloc ?_ _)); exact BK232.out⟩, ⟨by (with_reducible repeat (first | refine blk_drewN ?_ _ | refine blk_drew ?_ | refine blk_alloc ?_ _)); exact BK244.out⟩, ⟨by (with_reducible repeat (first | refine blk_drewN ?_ _ | refine blk_drew ?_ | refine blk_alloc ?_ _)); exact BK252.out⟩, ⟨by (with_reducible repeat (first | refine blk_drewN ?_ _ | refine blk_drew ?_ | refine blk_alloc ?_ _)); exact BK260.out⟩, ⟨by (with_reducible repeat (first | refine blk_drewN ?_ _ | refine blk_drew ?_ | refine blk_alloc ?_ _)); exact BK268.out⟩, ⟨by (with_reducible repeat (first | refine blk_drewN ?_ _ | refine blk_drew ?_ | refine blk_alloc ?_ _)); exact BK269.out⟩, ⟨by repeat (first | (with_reducible first | exact HB.out | apply below_alloc | apply pw_below_drewN | apply below_drew1 | refine below_set ?_ GE232.out | refine below_set ?_ GE244.out | refine below_set ?_ GE252.out | refine below_set ?_ GE260.out | refine below_set ?_ GE268.out | refine below_set ?_ GE269.out) | exact HB.out)⟩⟩
                · replace c78 := Bool.eq_false_iff.mpr c78
                  subst c78
                  have H1 : (some false) = some r := by rw [if_neg (show ¬ (false = true) by decide)] at H; exact H
                  clear H
                  have H := H1
                  clear H1
                  obtain rfl := Option.some.inj H
                  have hnb91 := NB244_232.out
                  have hnc91 := NB232_244.out
                  have hnb92 := NB244_252.out
                  have hnc92 := NB252_244.out
                  have hnb93 := NB244_260.out
                  have hnc93 := NB260_244.out
                  have hnb94 := NB244_268.out
                  have hnc94 := NB268_244.out
                  have hnb95 := NB244_269.out
                  have hnc95 := NB269_244.out
                  have hcz96_0 : wc.cell? ⟨gb244, 0, none⟩ = some (.int .i64 t238) := (blk_cell BK244.out 0).trans rfl
                  have hcz96_1 : wc.cell? ⟨gb244, 1, none⟩ = some (.slice Ao24 t239.length co24) := (blk_cell BK244.out 1).trans rfl
                  have hcz96_2 : wc.cell? ⟨gb244, 2, none⟩ = some (.int .i64 t242) := (blk_cell BK244.out 2).trans rfl
                  have hfz96_0 := blk_frozen BK244.out 0
                  have hfz96_1 := blk_frozen BK244.out 1
                  have hfz96_2 := blk_frozen BK244.out 2
                  have hnb97 := NB269_232.out
                  have hnc97 := NB232_269.out
                  have hnb98 := NB269_252.out
                  have hnc98 := NB252_269.out
                  have hnb99 := NB269_260.out
                  have hnc99 := NB260_269.out
                  have hnb100 := NB269_268.out
                  have hnc100 := NB268_269.out
                  have hcz101_0 : wc.cell? ⟨gb269, 0, none⟩ = some (.int .i64 0) := (blk_cell BK269.out 0).trans rfl
                  have hcz101_1 : wc.cell? ⟨gb269, 1, none⟩ = some (.slice none 0 0) := (blk_cell BK269.out 1).trans rfl
                  have hcz101_2 : wc.cell? ⟨gb269, 2, none⟩ = some (.int .i64 0) := (blk_cell BK269.out 2).trans rfl
                  have hfz101_0 := blk_frozen BK269.out 0
                  have hfz101_1 := blk_frozen BK269.out 1
                  have hfz101_2 := blk_frozen BK269.out 2
                  go_wp2_with (first | (go_at_call 28; (refine (footwayref09_Same.calls kj71 t238 _ _ t239 t242 0 _ _ ([] : List ByteArray) 0 false _ ?side1 ?side2 ?side3 ?side4 A77.out).mono ?_); (case side1 => repeat (first | exact (Kd.R_reads' HO_245001.out).2.2 | (with_reducible refine Kd.C_alloc ?_ _) | (with_reducible refine Kd.C_drewN ?_ _) | (with_reducible refine Kd.C_drew ?_))); (case side2 => exact (Kd.R_reads' HO_245001.out).2.1); (case side3 => exact Kd.C_nil _ _); (case side4 => exact Nat.le_refl _); rintro e w102 ⟨rfl, hb⟩; have n0_ := Aside0.mk (Kd.R_below (by (with_reducible repeat (first | apply Kd.R_alloc | apply Kd.R_drewN | apply Kd.R_drew)); exact HO_233001.out) hb); have n1_ := Aside0.mk (Kd.R_below (by (with_reducible repeat (first | apply Kd.R_alloc | apply Kd.R_drewN | apply Kd.R_drew)); exact HO_245001.out) hb); have n2_ := Aside0.mk (Kd.V_below (by (with_reducible repeat (first | apply Kd.V_alloc | apply Kd.V_drewN | apply Kd.V_drew)); exact HO_253001.out) hb); have n3_ := Aside0.mk (Kd.V_below (by (with_reducible repeat (first | apply Kd.V_alloc | apply Kd.V_drewN | apply Kd.V_drew)); exact HO_261001.out) hb); have n4_ := Aside0.mk (Kd.R_below (by (with_reducible repeat (first | apply Kd.R_alloc | apply Kd.R_drewN | apply Kd.R_drew)); exact HO_269001.out) hb); have n5_ := Aside0.mk (blk_below (g := gb232) (o := .cells #[.int .i64 t233, .slice Ao17 t234.length co17, .int .i64 t237] 35 (0, 0)) (by (with_reducible repeat (first | refine blk_drewN ?_ _ | refine blk_drew ?_ | refine blk_alloc ?_ _)); exact BK232.out) hb); have n6_ := Aside0.mk (blk_below (g := gb244) (o := .cells #[.int .i64 t238, .slice Ao24 t239.length co24, .int .i64 t242] 35 (0, 0)) (by (with_reducible repeat (first | refine blk_drewN ?_ _ | refine blk_drew ?_ | refine blk_alloc ?_ _)); exact BK244.out) hb); have n7_ := Aside0.mk (blk_below (g := gb252) (o := .cells #[.int .i64 t245, .slice Ao32 t246.length co32, .int .i64 t249] 35 (0, 0)) (by (with_reducible repeat (first | refine blk_drewN ?_ _ | refine blk_drew ?_ | refine blk_alloc ?_ _)); exact BK252.out) hb); have n8_ := Aside0.mk (blk_below (g := gb260) (o := .cells #[.int .i64 t253, .slice Ao41 t254.length co41, .int .i64 t257] 35 (0, 0)) (by (with_reducible repeat (first | refine blk_drewN ?_ _ | refine blk_drew ?_ | refine blk_alloc ?_ _)); exact BK260.out) hb); have n9_ := Aside0.mk (blk_below (g := gb268) (o := .cells #[.int .i64 t261, .slice Ao50 t262.length co50, .int .i64 t265] 35 (0, 0)) (by (with_reducible repeat (first | refine blk_drewN ?_ _ | refine blk_drew ?_ | refine blk_alloc ?_ _)); exact BK268.out) hb); have n10_ := Aside0.mk (blk_below (g := gb269) (o := .cells #[.int .i64 0, .slice none 0 0, .int .i64 0] 35 (0, 0)) (by (with_reducible repeat (first | refine blk_drewN ?_ _ | refine blk_drew ?_ | refine blk_alloc ?_ _)); exact BK269.out) hb); have n11_ := Aside0.mk (below_step (by repeat (first | (with_reducible first | exact HB.out | apply below_alloc | apply pw_below_drewN | apply below_drew1 | refine below_set ?_ GE232.out | refine below_set ?_ GE244.out | refine below_set ?_ GE252.out | refine below_set ?_ GE260.out | refine below_set ?_ GE268.out | refine below_set ?_ GE269.out) | exact HB.out)) hb); clear HO_233001; clear HO_245001; clear HO_253001; clear HO_261001; clear HO_269001; clear BK232; clear BK244; clear BK252; clear BK260; clear BK268; clear BK269; clear HB; have HO_233001 := n0_; have HO_245001 := n1_; have HO_253001 := n2_; have HO_261001 := n3_; have HO_269001 := n4_; have BK232 := n5_; have BK244 := n6_; have BK252 := n7_; have BK260 := n8_; have BK268 := n9_; have BK269 := n10_; have HB := n11_; clear n0_ n1_ n2_ n3_ n4_ n5_ n6_ n7_ n8_ n9_ n10_ n11_; (try clear hb); (try clear hb2); (try clear hk); (try clear hi)))
                  go_ret
                  exact ⟨by first | rfl | (simp [errW_none, errW_some] <;> rfl) | (simp only [← hji5]; first | rfl | (simp [errW_none, errW_some] <;> rfl)) | (simp [*, errW_none, errW_some] <;> rfl), by repeat (first | (with_reducible first | exact HB.out | apply below_alloc | apply pw_below_drewN | apply below_drew1 | refine below_set ?_ GE232.out | refine below_set ?_ GE244.out | refine below_set ?_ GE252.out | refine below_set ?_ GE260.out | refine below_set ?_ GE268.out | refine below_set ?_ GE269.out) | exact HB.out)⟩
              · rw [if_neg c76] at H
                have c76b0 : (t243 == 2) = false := beq_eq_false_iff_ne.mpr c76
                have c76b1 : (t243 != 2) = true := bne_iff_ne.mpr c76
                (first | rw [c76b0] | (simp only [i64_w, i32_w]; rw [c76b0]) | skip)
                obtain rfl := Option.some.inj H
                go_wp2
                go_ret
                exact ⟨by first | rfl | (simp [errW_none, errW_some] <;> rfl) | (simp only [← hji5]; first | rfl | (simp [errW_none, errW_some] <;> rfl)) | (simp [*, errW_none, errW_some] <;> rfl), by repeat (first | (with_reducible first | exact HB.out | apply below_alloc | apply pw_below_drewN | apply below_drew1 | refine below_set ?_ GE232.out | refine below_set ?_ GE244.out | refine below_set ?_ GE252.out | refine below_set ?_ GE260.out | refine below_set ?_ GE268.out | refine below_set ?_ GE269.out) | exact HB.out)⟩
            ·
             as_aux_lemma =>
              replace c75 := Bool.eq_false_iff.mpr c75
              subst c75
              have H1 : (if t243 = 0 then ((footwayref09_Same.f kj71 t238 t239 t242 a0 ([] : List ByteArray) 0).bind fun t274 => (if t274 = true then (footwaylaw09_QueueTells.j2 kj71 (a2.extract 0 ((ji5) : Int).toNat) t250 t251 t258 t259 t266 t267 t233 t234 t237 t245 t246 t249 t253 t254 t257 t261 t262 t265 0 0) else (some false))) else (some false)) = some r := by rw [if_neg (show ¬ (false = true) by decide)] at H; exact H
              clear H
              have H := H1
              clear H1
              by_cases c103 : t243 = 0
              · rw [if_pos c103] at H
                have c103b0 : (t243 == 0) = true := beq_iff_eq.mpr c103
                have c103b1 : (t243 != 0) = false := bne_eq_false_iff_eq.mpr c103
                clear c103
                replace H := Option.bind_eq_some_iff.mp H
                obtain ⟨t274, A1040, H⟩ := H
                replace H : (if t274 = true then (footwaylaw09_QueueTells.j2 kj71 (a2.extract 0 ((ji5) : Int).toNat) t250 t251 t258 t259 t266 t267 t233 t234 t237 t245 t246 t249 t253 t254 t257 t261 t262 t265 0 0) else (some false)) = some r := H
                have A104 := Aside0.mk A1040
                clear A1040
                by_cases c105 : t274 = true
                · subst c105
                  have H1 : (footwaylaw09_QueueTells.j2 kj71 (a2.extract 0 ((ji5) : Int).toNat) t250 t251 t258 t259 t266 t267 t233 t234 t237 t245 t246 t249 t253 t254 t257 t261 t262 t265 0 0) = some r := by rw [if_pos rfl] at H; exact H
                  clear H
                  have H := H1
                  clear H1
                  have H' := Aside0.mk H
                  clear H
                  have hnb106 := NB244_232.out
                  have hnc106 := NB232_244.out
                  have hnb107 := NB244_252.out
                  have hnc107 := NB252_244.out
                  have hnb108 := NB244_260.out
                  have hnc108 := NB260_244.out
                  have hnb109 := NB244_268.out
                  have hnc109 := NB268_244.out
                  have hnb110 := NB244_269.out
                  have hnc110 := NB269_244.out
                  have hcz111_0 : wc.cell? ⟨gb244, 0, none⟩ = some (.int .i64 t238) := (blk_cell BK244.out 0).trans rfl
                  have hcz111_1 : wc.cell? ⟨gb244, 1, none⟩ = some (.slice Ao24 t239.length co24) := (blk_cell BK244.out 1).trans rfl
                  have hcz111_2 : wc.cell? ⟨gb244, 2, none⟩ = some (.int .i64 t242) := (blk_cell BK244.out 2).trans rfl
                  have hfz111_0 := blk_frozen BK244.out 0
                  have hfz111_1 := blk_frozen BK244.out 1
                  have hfz111_2 := blk_frozen BK244.out 2
                  go_wp2_with (first | (go_at_call 28; (refine (footwayref09_Same.calls kj71 t238 _ _ t239 t242 a0 _ _ ([] : List ByteArray) 0 true _ ?side1 ?side2 ?side3 ?side4 A104.out).mono ?_); (case side1 => repeat (first | exact (Kd.R_reads' HO_245001.out).2.2 | (with_reducible refine Kd.C_alloc ?_ _) | (with_reducible refine Kd.C_drewN ?_ _) | (with_reducible refine Kd.C_drew ?_))); (case side2 => exact (Kd.R_reads' HO_245001.out).2.1); (case side3 => exact Kd.C_nil _ _); (case side4 => exact Nat.le_refl _); rintro e w112 ⟨rfl, hb⟩; have n0_ := Aside0.mk (Kd.R_below (by (with_reducible repeat (first | apply Kd.R_alloc | apply Kd.R_drewN | apply Kd.R_drew)); exact HO_233001.out) hb); have n1_ := Aside0.mk (Kd.R_below (by (with_reducible repeat (first | apply Kd.R_alloc | apply Kd.R_drewN | apply Kd.R_drew)); exact HO_245001.out) hb); have n2_ := Aside0.mk (Kd.V_below (by (with_reducible repeat (first | apply Kd.V_alloc | apply Kd.V_drewN | apply Kd.V_drew)); exact HO_253001.out) hb); have n3_ := Aside0.mk (Kd.V_below (by (with_reducible repeat (first | apply Kd.V_alloc | apply Kd.V_drewN | apply Kd.V_drew)); exact HO_261001.out) hb); have n4_ := Aside0.mk (Kd.R_below (by (with_reducible repeat (first | apply Kd.R_alloc | apply Kd.R_drewN | apply Kd.R_drew)); exact HO_269001.out) hb); have n5_ := Aside0.mk (blk_below (g := gb232) (o := .cells #[.int .i64 t233, .slice Ao17 t234.length co17, .int .i64 t237] 35 (0, 0)) (by (with_reducible repeat (first | refine blk_drewN ?_ _ | refine blk_drew ?_ | refine blk_alloc ?_ _)); exact BK232.out) hb); have n6_ := Aside0.mk (blk_below (g := gb244) (o := .cells #[.int .i64 t238, .slice Ao24 t239.length co24, .int .i64 t242] 35 (0, 0)) (by (with_reducible repeat (first | refine blk_drewN ?_ _ | refine blk_drew ?_ | refine blk_alloc ?_ _)); exact BK244.out) hb); have n7_ := Aside0.mk (blk_below (g := gb252) (o := .cells #[.int .i64 t245, .slice Ao32 t246.length co32, .int .i64 t249] 35 (0, 0)) (by (with_reducible repeat (first | refine blk_drewN ?_ _ | refine blk_drew ?_ | refine blk_alloc ?_ _)); exact BK252.out) hb); have n8_ := Aside0.mk (blk_below (g := gb260) (o := .cells #[.int .i64 t253, .slice Ao41 t254.length co41, .int .i64 t257] 35 (0, 0)) (by (with_reducible repeat (first | refine blk_drewN ?_ _ | refine blk_drew ?_ | refine blk_alloc ?_ _)); exact BK260.out) hb); have n9_ := Aside0.mk (blk_below (g := gb268) (o := .cells #[.int .i64 t261, .slice Ao50 t262.length co50, .int .i64 t265] 35 (0, 0)) (by (with_reducible repeat (first | refine blk_drewN ?_ _ | refine blk_drew ?_ | refine blk_alloc ?_ _)); exact BK268.out) hb); have n10_ := Aside0.mk (blk_below (g := gb269) (o := .cells #[.int .i64 0, .slice none 0 0, .int .i64 0] 35 (0, 0)) (by (with_reducible repeat (first | refine blk_drewN ?_ _ | refine blk_drew ?_ | refine blk_alloc ?_ _)); exact BK269.out) hb); have n11_ := Aside0.mk (below_step (by repeat (first | (with_reducible first | exact HB.out | apply below_alloc | apply pw_below_drewN | apply below_drew1 | refine below_set ?_ GE232.out | refine below_set ?_ GE244.out | refine below_set ?_ GE252.out | refine below_set ?_ GE260.out | refine below_set ?_ GE268.out | refine below_set ?_ GE269.out) | exact HB.out)) hb); clear HO_233001; clear HO_245001; clear HO_253001; clear HO_261001; clear HO_269001; clear BK232; clear BK244; clear BK252; clear BK260; clear BK268; clear BK269; clear HB; have HO_233001 := n0_; have HO_245001 := n1_; have HO_253001 := n2_; have HO_261001 := n3_; have HO_269001 := n4_; have BK232 := n5_; have BK244 := n6_; have BK252 := n7_; have BK260 := n8_; have BK268 := n9_; have BK269 := n10_; have HB := n11_; clear n0_ n1_ n2_ n3_ n4_ n5_ n6_ n7_ n8_ n9_ n10_ n11_; (try clear hb); (try clear hb2); (try clear hk); (try clear hi)))
                  go_meet
                  case rel => exact ⟨_, H', ⟨by have := HJ11.out; have := HJ71.out; first | omega | exact Nat.le_refl _⟩, ⟨by (with_reducible repeat (first | apply Kd.R_alloc | apply Kd.R_drewN | apply Kd.R_drew)); exact HO_233001.out⟩, ⟨by (with_reducible repeat (first | apply Kd.R_alloc | apply Kd.R_drewN | apply Kd.R_drew)); exact HO_245001.out⟩, ⟨by (with_reducible repeat (first | apply Kd.V_alloc | apply Kd.V_drewN | apply Kd.V_drew)); exact HO_253001.out⟩, ⟨by (with_reducible repeat (first | apply Kd.V_alloc | apply Kd.V_drewN | apply Kd.V_drew)); exact HO_261001.out⟩, ⟨by (with_reducible repeat (first | apply Kd.R_alloc | apply Kd.R_drewN | apply Kd.R_drew)); exact HO_269001.out⟩, ⟨by (with_reducible repeat (first | refine blk_drewN ?_ _ | refine blk_drew ?_ | refine blk_alloc ?_ _)); exact BK232.out⟩, ⟨by (with_reducible repeat (first | refine blk_drewN ?_ _ | refine blk_drew ?_ | refine blk_alloc ?_ _)); exact BK244.out⟩, ⟨by (with_reducible repeat (first | refine blk_drewN ?_ _ | refine blk_drew ?_ | refine blk_alloc ?_ _)); exact BK252.out⟩, ⟨by (with_reducible repeat (first | refine blk_drewN ?_ _ | refine blk_drew ?_ | refine blk_alloc ?_ _)); exact BK260.out⟩, ⟨by (with_reducible repeat (first | refine blk_drewN ?_ _ | refine blk_drew ?_ | refine blk_alloc ?_ _)); exact BK268.out⟩, ⟨by (with_reducible repeat (first | refine blk_drewN ?_ _ | refine blk_drew ?_ | refine blk_alloc ?_ _)); exact BK269.out⟩, ⟨by repeat (first | (with_reducible first | exact HB.out | apply below_alloc | apply pw_below_drewN | apply below_drew1 | refine below_set ?_ GE232.out | refine below_set ?_ GE244.out | refine below_set ?_ GE252.out | refine below_set ?_ GE260.out | refine below_set ?_ GE268.out | refine below_set ?_ GE269.out) | exact HB.out)⟩⟩
                · replace c105 := Bool.eq_false_iff.mpr c105
                  subst c105
                  have H1 : (some false) = some r := by rw [if_neg (show ¬ (false = true) by decide)] at H; exact H
                  clear H
                  have H := H1
                  clear H1
                  obtain rfl := Option.some.inj H
                  have hnb113 := NB244_232.out
                  have hnc113 := NB232_244.out
                  have hnb114 := NB244_252.out
                  have hnc114 := NB252_244.out
                  have hnb115 := NB244_260.out
                  have hnc115 := NB260_244.out
                  have hnb116 := NB244_268.out
                  have hnc116 := NB268_244.out
                  have hnb117 := NB244_269.out
                  have hnc117 := NB269_244.out
                  have hcz118_0 : wc.cell? ⟨gb244, 0, none⟩ = some (.int .i64 t238) := (blk_cell BK244.out 0).trans rfl
                  have hcz118_1 : wc.cell? ⟨gb244, 1, none⟩ = some (.slice Ao24 t239.length co24) := (blk_cell BK244.out 1).trans rfl
                  have hcz118_2 : wc.cell? ⟨gb244, 2, none⟩ = some (.int .i64 t242) := (blk_cell BK244.out 2).trans rfl
                  have hfz118_0 := blk_frozen BK244.out 0
                  have hfz118_1 := blk_frozen BK244.out 1
                  have hfz118_2 := blk_frozen BK244.out 2
                  go_wp2_with (first | (go_at_call 28; (refine (footwayref09_Same.calls kj71 t238 _ _ t239 t242 a0 _ _ ([] : List ByteArray) 0 false _ ?side1 ?side2 ?side3 ?side4 A104.out).mono ?_); (case side1 => repeat (first | exact (Kd.R_reads' HO_245001.out).2.2 | (with_reducible refine Kd.C_alloc ?_ _) | (with_reducible refine Kd.C_drewN ?_ _) | (with_reducible refine Kd.C_drew ?_))); (case side2 => exact (Kd.R_reads' HO_245001.out).2.1); (case side3 => exact Kd.C_nil _ _); (case side4 => exact Nat.le_refl _); rintro e w119 ⟨rfl, hb⟩; have n0_ := Aside0.mk (Kd.R_below (by (with_reducible repeat (first | apply Kd.R_alloc | apply Kd.R_drewN | apply Kd.R_drew)); exact HO_233001.out) hb); have n1_ := Aside0.mk (Kd.R_below (by (with_reducible repeat (first | apply Kd.R_alloc | apply Kd.R_drewN | apply Kd.R_drew)); exact HO_245001.out) hb); have n2_ := Aside0.mk (Kd.V_below (by (with_reducible repeat (first | apply Kd.V_alloc | apply Kd.V_drewN | apply Kd.V_drew)); exact HO_253001.out) hb); have n3_ := Aside0.mk (Kd.V_below (by (with_reducible repeat (first | apply Kd.V_alloc | apply Kd.V_drewN | apply Kd.V_drew)); exact HO_261001.out) hb); have n4_ := Aside0.mk (Kd.R_below (by (with_reducible repeat (first | apply Kd.R_alloc | apply Kd.R_drewN | apply Kd.R_drew)); exact HO_269001.out) hb); have n5_ := Aside0.mk (blk_below (g := gb232) (o := .cells #[.int .i64 t233, .slice Ao17 t234.length co17, .int .i64 t237] 35 (0, 0)) (by (with_reducible repeat (first | refine blk_drewN ?_ _ | refine blk_drew ?_ | refine blk_alloc ?_ _)); exact BK232.out) hb); have n6_ := Aside0.mk (blk_below (g := gb244) (o := .cells #[.int .i64 t238, .slice Ao24 t239.length co24, .int .i64 t242] 35 (0, 0)) (by (with_reducible repeat (first | refine blk_drewN ?_ _ | refine blk_drew ?_ | refine blk_alloc ?_ _)); exact BK244.out) hb); have n7_ := Aside0.mk (blk_below (g := gb252) (o := .cells #[.int .i64 t245, .slice Ao32 t246.length co32, .int .i64 t249] 35 (0, 0)) (by (with_reducible repeat (first | refine blk_drewN ?_ _ | refine blk_drew ?_ | refine blk_alloc ?_ _)); exact BK252.out) hb); have n8_ := Aside0.mk (blk_below (g := gb260) (o := .cells #[.int .i64 t253, .slice Ao41 t254.length co41, .int .i64 t257] 35 (0, 0)) (by (with_reducible repeat (first | refine blk_drewN ?_ _ | refine blk_drew ?_ | refine blk_alloc ?_ _)); exact BK260.out) hb); have n9_ := Aside0.mk (blk_below (g := gb268) (o := .cells #[.int .i64 t261, .slice Ao50 t262.length co50, .int .i64 t265] 35 (0, 0)) (by (with_reducible repeat (first | refine blk_drewN ?_ _ | refine blk_drew ?_ | refine blk_alloc ?_ _)); exact BK268.out) hb); have n10_ := Aside0.mk (blk_below (g := gb269) (o := .cells #[.int .i64 0, .slice none 0 0, .int .i64 0] 35 (0, 0)) (by (with_reducible repeat (first | refine blk_drewN ?_ _ | refine blk_drew ?_ | refine blk_alloc ?_ _)); exact BK269.out) hb); have n11_ := Aside0.mk (below_step (by repeat (first | (with_reducible first | exact HB.out | apply below_alloc | apply pw_below_drewN | apply below_drew1 | refine below_set ?_ GE232.out | refine below_set ?_ GE244.out | refine below_set ?_ GE252.out | refine below_set ?_ GE260.out | refine below_set ?_ GE268.out | refine below_set ?_ GE269.out) | exact HB.out)) hb); clear HO_233001; clear HO_245001; clear HO_253001; clear HO_261001; clear HO_269001; clear BK232; clear BK244; clear BK252; clear BK260; clear BK268; clear BK269; clear HB; have HO_233001 := n0_; have HO_245001 := n1_; have HO_253001 := n2_; have HO_261001 := n3_; have HO_269001 := n4_; have BK232 := n5_; have BK244 := n6_; have BK252 := n7_; have BK260 := n8_; have BK268 := n9_; have BK269 := n10_; have HB := n11_; clear n0_ n1_ n2_ n3_ n4_ n5_ n6_ n7_ n8_ n9_ n10_ n11_; (try clear hb); (try clear hb2); (try clear hk); (try clear hi)))
                  go_ret
                  exact ⟨by first | rfl | (simp [errW_none, errW_some] <;> rfl) | (simp only [← hji5]; first | rfl | (simp [errW_none, errW_some] <;> rfl)) | (simp [*, errW_none, errW_some] <;> rfl), by repeat (first | (with_reducible first | exact HB.out | apply below_alloc | apply pw_below_drewN | apply below_drew1 | refine below_set ?_ GE232.out | refine below_set ?_ GE244.out | refine below_set ?_ GE252.out | refine below_set ?_ GE260.out | refine below_set ?_ GE268.out | refine below_set ?_ GE269.out) | exact HB.out)⟩
              · rw [if_neg c103] at H
                have c103b0 : (t243 == 0) = false := beq_eq_false_iff_ne.mpr c103
                have c103b1 : (t243 != 0) = true := bne_iff_ne.mpr c103
                obtain rfl := Option.some.inj H
                go_wp2
                go_ret
                exact ⟨by first | rfl | (simp [errW_none, errW_some] <;> rfl) | (simp only [← hji5]; first | rfl | (simp [errW_none, errW_some] <;> rfl)) | (simp [*, errW_none, errW_some] <;> rfl), by repeat (first | (with_reducible first | exact HB.out | apply below_alloc | apply pw_below_drewN | apply below_drew1 | refine below_set ?_ GE232.out | refine below_set ?_ GE244.out | refine below_set ?_ GE252.out | refine below_set ?_ GE260.out | refine below_set ?_ GE268.out | refine below_set ?_ GE269.out) | exact HB.out)⟩
          case rest =>
           as_aux_lemma =>
            clear HC74
            try clear c1
            try clear c2
            try clear p2
            try clear c3
            try clear c4
            try clear c5
            try clear c6
            try clear c7
            try clear c8
            try clear c9
            try clear c10
            try clear c11
            try clear c21
            try clear c22
            try clear c23
            try clear c24
            try clear c25
            try clear c26
            try clear c27
            try clear c29
            try clear c30
            try clear c37
            try clear c38
            try clear c39
            try clear c45
            try clear c46
            try clear c47
            try clear c48
            try clear c52
            try clear c53
            try clear c54
            try clear c55
            try clear c56
            try clear c60
            try clear c60b0
            try clear c60b1
            try clear c60b2
            try clear c71
            try clear c73
            try clear c73b0
            try clear c75
            try clear c76
            try clear c76b0
            try clear c76b1
            try clear c78
            try clear c79
            try clear c80
            try clear c81
            try clear c82
            try clear c83
            try clear c85
            try clear c86
            try clear c87
            try clear c88
            try clear c91
            try clear c92
            try clear c93
            try clear c94
            try clear c95
            try clear c97
            try clear c98
            try clear c99
            try clear c100
            try clear c103
            try clear c103b0
            try clear c103b1
            try clear c105
            try clear c106
            try clear c107
            try clear c108
            try clear c109
            try clear c110
            try clear c113
            try clear c114
            try clear c115
            try clear c116
            try clear c117
            try clear hcz101_0
            try clear hcz101_1
            try clear hcz101_2
            try clear hcz111_0
            try clear hcz111_1
            try clear hcz111_2
            try clear hcz118_0
            try clear hcz118_1
            try clear hcz118_2
            try clear hcz23_0
            try clear hcz23_1
            try clear hcz23_2
            try clear hcz26_0
            try clear hcz26_1
            try clear hcz26_2
            try clear hcz31_0
            try clear hcz31_1
            try clear hcz31_2
            try clear hcz34_0
            try clear hcz34_1
            try clear hcz34_2
            try clear hcz40_0
            try clear hcz40_1
            try clear hcz40_2
            try clear hcz42_0
            try clear hcz42_1
            try clear hcz42_2
            try clear hcz49_0
            try clear hcz49_1
            try clear hcz49_2
            try clear hcz57_0
            try clear hcz57_1
            try clear hcz57_2
            try clear hcz84_0
            try clear hcz84_1
            try clear hcz84_2
            try clear hcz89_0
            try clear hcz89_1
            try clear hcz89_2
            try clear hcz96_0
            try clear hcz96_1
            try clear hcz96_2
            try clear hfz101_0
            try clear hfz101_1
            try clear hfz101_2
            try clear hfz111_0
            try clear hfz111_1
            try clear hfz111_2
            try clear hfz118_0
            try clear hfz118_1
            try clear hfz118_2
            try clear hfz23_0
            try clear hfz23_1
            try clear hfz23_2
            try clear hfz26_0
            try clear hfz26_1
            try clear hfz26_2
            try clear hfz31_0
            try clear hfz31_1
            try clear hfz31_2
            try clear hfz34_0
            try clear hfz34_1
            try clear hfz34_2
            try clear hfz40_0
            try clear hfz40_1
            try clear hfz40_2
            try clear hfz42_0
            try clear hfz42_1
            try clear hfz42_2
            try clear hfz49_0
            try clear hfz49_1
            try clear hfz49_2
            try clear hfz57_0
            try clear hfz57_1
            try clear hfz57_2
            try clear hfz84_0
            try clear hfz84_1
            try clear hfz84_2
            try clear hfz89_0
            try clear hfz89_1
            try clear hfz89_2
            try clear hfz96_0
            try clear hfz96_1
            try clear hfz96_2
            try clear p2
            obtain ⟨kq, HA, HJ73, HO_233001, HO_245001, HO_253001, HO_261001, HO_269001, BK232, BK244, BK252, BK260, BK268, BK269, HB⟩ := hcut
            cases kq with
            | zero => exact absurd HA.out (by simp [footwaylaw09_QueueTells.j2])
            | succ kj73 =>
              have H := HA.out
              clear HA
              simp only [footwaylaw09_QueueTells.j2] at H
              replace H := Option.bind_eq_some_iff.mp H
              obtain ⟨t275, A1200, H⟩ := H
              replace H : (if t275 = true then ((footwayref09_Clear.f t233 t234 t237).bind fun bt279 => (if t267 = 0 then (if t266 = bt279.2.2.2 then ((footwayref09_Same.f kj73 t261 t262 t265 bt279.1 bt279.2.1 bt279.2.2.1).bind fun t286 => (footwaylaw09_QueueTells.j3 kj73 (a2.extract 0 ((ji5) : Int).toNat) t250 t251 t258 t259 (!t286) t233 t234 t237 t245 t246 t249 t253 t254 t257 0 0)) else (footwaylaw09_QueueTells.j3 kj73 (a2.extract 0 ((ji5) : Int).toNat) t250 t251 t258 t259 true t233 t234 t237 t245 t246 t249 t253 t254 t257 0 0)) else (footwaylaw09_QueueTells.j3 kj73 (a2.extract 0 ((ji5) : Int).toNat) t250 t251 t258 t259 true t233 t234 t237 t245 t246 t249 t253 t254 t257 0 0))) else (if t251 = 1 then (if t259 = 1 then (if t267 = 1 then (if t250 = true then (some false) else (if t258.toList = ([] : List UInt8) then (if t266 = 0 then ((footwayref09_Same.f kj73 t245 t246 t249 0 ([] : List ByteArray) 0).bind fun t276 => (if t276 = true then ((footwayref09_Same.f kj73 t253 t254 t257 0 ([] : List ByteArray) 0).bind fun t277 => (if t277 = true then ((footwayref09_Same.f kj73 t261 t262 t265 0 ([] : List ByteArray) 0).bind fun t278 => (some t278)) else (some false))) else (some false))) else (some false)) else (some false))) else (some false)) else (some false)) else (some false))) = some r := H
              have A120 := Aside0.mk A1200
              clear A1200
              by_cases c121 : t275 = true
              ·
               as_aux_lemma =>
                subst c121
                have H1 : ((footwayref09_Clear.f t233 t234 t237).bind fun bt279 => (if t267 = 0 then (if t266 = bt279.2.2.2 then ((footwayref09_Same.f kj73 t261 t262 t265 bt279.1 bt279.2.1 bt279.2.2.1).bind fun t286 => (footwaylaw09_QueueTells.j3 kj73 (a2.extract 0 ((ji5) : Int).toNat) t250 t251 t258 t259 (!t286) t233 t234 t237 t245 t246 t249 t253 t254 t257 0 0)) else (footwaylaw09_QueueTells.j3 kj73 (a2.extract 0 ((ji5) : Int).toNat) t250 t251 t258 t259 true t233 t234 t237 t245 t246 t249 t253 t254 t257 0 0)) else (footwaylaw09_QueueTells.j3 kj73 (a2.extract 0 ((ji5) : Int).toNat) t250 t251 t258 t259 true t233 t234 t237 t245 t246 t249 t253 t254 t257 0 0))) = some r := by rw [if_pos rfl] at H; exact H
                clear H
                have H := H1
                clear H1
                replace H := Option.bind_eq_some_iff.mp H
                obtain ⟨⟨t279, t280, t283, t284⟩, A1220, H⟩ := H
                replace H : (if t267 = 0 then (if t266 = t284 then ((footwayref09_Same.f kj73 t261 t262 t265 t279 t280 t283).bind fun t286 => (footwaylaw09_QueueTells.j3 kj73 (a2.extract 0 ((ji5) : Int).toNat) t250 t251 t258 t259 (!t286) t233 t234 t237 t245 t246 t249 t253 t254 t257 0 0)) else (footwaylaw09_QueueTells.j3 kj73 (a2.extract 0 ((ji5) : Int).toNat) t250 t251 t258 t259 true t233 t234 t237 t245 t246 t249 t253 t254 t257 0 0)) else (footwaylaw09_QueueTells.j3 kj73 (a2.extract 0 ((ji5) : Int).toNat) t250 t251 t258 t259 true t233 t234 t237 t245 t246 t249 t253 t254 t257 0 0)) = some r := H
                have A122 := Aside0.mk A1220
                clear A1220
                have HC123 := Aside0.mk H
                clear H
                have hnb124 := NB232_244.out
                have hnc124 := NB244_232.out
                have hnb125 := NB232_252.out
                have hnc125 := NB252_232.out
                have hnb126 := NB232_260.out
                have hnc126 := NB260_232.out
                have hnb127 := NB232_268.out
                have hnc127 := NB268_232.out
                have hnb128 := NB232_269.out
                have hnc128 := NB269_232.out
                have hcz129_0 : wc.cell? ⟨gb232, 0, none⟩ = some (.int .i64 t233) := (blk_cell BK232.out 0).trans rfl
                have hcz129_1 : wc.cell? ⟨gb232, 1, none⟩ = some (.slice Ao17 t234.length co17) := (blk_cell BK232.out 1).trans rfl
                have hcz129_2 : wc.cell? ⟨gb232, 2, none⟩ = some (.int .i64 t237) := (blk_cell BK232.out 2).trans rfl
                have hfz129_0 := blk_frozen BK232.out 0
                have hfz129_1 := blk_frozen BK232.out 1
                have hfz129_2 := blk_frozen BK232.out 2
                go_upto_region 17 with (first | ((with_reducible refine gate_callee (f := 26) rfl ?_); refine goesL_ (some 88) rfl rfl Try.func26 (by kernel_rfl) rfl #[.agg #[.int .i64 t233, .slice Ao17 t234.length co17, .int .i64 t237]] rfl (by (try simp only [List.map_toArray, List.map_cons, List.map_nil]); first | done | rfl | (simp only [List.length_drop, List.length_take]; rfl)) ?_; (with_reducible refine (footwayref09_Right.calls kj73 t233 _ _ t234 t237 true _ ?side1 ?side2 A120.out).mono ?_); (case side1 => repeat (first | exact (Kd.R_reads' HO_233001.out).2.2 | (with_reducible refine Kd.C_alloc ?_ _) | (with_reducible refine Kd.C_drewN ?_ _) | (with_reducible refine Kd.C_drew ?_))); (case side2 => exact (Kd.R_reads' HO_233001.out).2.1); rintro e w130 ⟨rfl, hb⟩; refine ⟨_, rfl, ?_⟩; have n0_ := Aside0.mk (Kd.R_below (by (with_reducible repeat (first | apply Kd.R_alloc | apply Kd.R_drewN | apply Kd.R_drew)); exact HO_233001.out) hb); have n1_ := Aside0.mk (Kd.R_below (by (with_reducible repeat (first | apply Kd.R_alloc | apply Kd.R_drewN | apply Kd.R_drew)); exact HO_245001.out) hb); have n2_ := Aside0.mk (Kd.V_below (by (with_reducible repeat (first | apply Kd.V_alloc | apply Kd.V_drewN | apply Kd.V_drew)); exact HO_253001.out) hb); have n3_ := Aside0.mk (Kd.V_below (by (with_reducible repeat (first | apply Kd.V_alloc | apply Kd.V_drewN | apply Kd.V_drew)); exact HO_261001.out) hb); have n4_ := Aside0.mk (Kd.R_below (by (with_reducible repeat (first | apply Kd.R_alloc | apply Kd.R_drewN | apply Kd.R_drew)); exact HO_269001.out) hb); have n5_ := Aside0.mk (blk_below (g := gb232) (o := .cells #[.int .i64 t233, .slice Ao17 t234.length co17, .int .i64 t237] 35 (0, 0)) (by (with_reducible repeat (first | refine blk_drewN ?_ _ | refine blk_drew ?_ | refine blk_alloc ?_ _)); exact BK232.out) hb); have n6_ := Aside0.mk (blk_below (g := gb244) (o := .cells #[.int .i64 t238, .slice Ao24 t239.length co24, .int .i64 t242] 35 (0, 0)) (by (with_reducible repeat (first | refine blk_drewN ?_ _ | refine blk_drew ?_ | refine blk_alloc ?_ _)); exact BK244.out) hb); have n7_ := Aside0.mk (blk_below (g := gb252) (o := .cells #[.int .i64 t245, .slice Ao32 t246.length co32, .int .i64 t249] 35 (0, 0)) (by (with_reducible repeat (first | refine blk_drewN ?_ _ | refine blk_drew ?_ | refine blk_alloc ?_ _)); exact BK252.out) hb); have n8_ := Aside0.mk (blk_below (g := gb260) (o := .cells #[.int .i64 t253, .slice Ao41 t254.length co41, .int .i64 t257] 35 (0, 0)) (by (with_reducible repeat (first | refine blk_drewN ?_ _ | refine blk_drew ?_ | refine blk_alloc ?_ _)); exact BK260.out) hb); have n9_ := Aside0.mk (blk_below (g := gb268) (o := .cells #[.int .i64 t261, .slice Ao50 t262.length co50, .int .i64 t265] 35 (0, 0)) (by (with_reducible repeat (first | refine blk_drewN ?_ _ | refine blk_drew ?_ | refine blk_alloc ?_ _)); exact BK268.out) hb); have n10_ := Aside0.mk (blk_below (g := gb269) (o := .cells #[.int .i64 0, .slice none 0 0, .int .i64 0] 35 (0, 0)) (by (with_reducible repeat (first | refine blk_drewN ?_ _ | refine blk_drew ?_ | refine blk_alloc ?_ _)); exact BK269.out) hb); have n11_ := Aside0.mk (below_step (by repeat (first | (with_reducible first | exact HB.out | apply below_alloc | apply pw_below_drewN | apply below_drew1 | refine below_set ?_ GE232.out | refine below_set ?_ GE244.out | refine below_set ?_ GE252.out | refine below_set ?_ GE260.out | refine below_set ?_ GE268.out | refine below_set ?_ GE269.out) | exact HB.out)) hb); clear HO_233001; clear HO_245001; clear HO_253001; clear HO_261001; clear HO_269001; clear BK232; clear BK244; clear BK252; clear BK260; clear BK268; clear BK269; clear HB; have HO_233001 := n0_; have HO_245001 := n1_; have HO_253001 := n2_; have HO_261001 := n3_; have HO_269001 := n4_; have BK232 := n5_; have BK244 := n6_; have BK252 := n7_; have BK260 := n8_; have BK268 := n9_; have BK269 := n10_; have HB := n11_; clear n0_ n1_ n2_ n3_ n4_ n5_ n6_ n7_ n8_ n9_ n10_ n11_; (try clear hb); (try clear hb2); (try clear hk); (try clear hi); have hcz131_0 : w130.cell? ⟨gb232, 0, none⟩ = some (.int .i64 t233) := (blk_cell BK232.out 0).trans rfl; have hcz131_1 : w130.cell? ⟨gb232, 1, none⟩ = some (.slice Ao17 t234.length co17) := (blk_cell BK232.out 1).trans rfl; have hcz131_2 : w130.cell? ⟨gb232, 2, none⟩ = some (.int .i64 t237) := (blk_cell BK232.out 2).trans rfl; have hfz131_0 := blk_frozen BK232.out 0; have hfz131_1 := blk_frozen BK232.out 1; have hfz131_2 := blk_frozen BK232.out 2) | ((with_reducible refine gate_callee (f := 29) rfl ?_); refine goesL_ (some 129) rfl rfl Try.func29 (by kernel_rfl) rfl #[.agg #[.int .i64 t233, .slice Ao17 t234.length co17, .int .i64 t237]] rfl (by (try simp only [List.map_toArray, List.map_cons, List.map_nil]); first | done | rfl | (simp only [List.length_drop, List.length_take]; rfl)) ?_; (with_reducible refine (footwayref09_Clear.calls t233 _ _ t234 t237 t279 t280 t283 t284 _ ?side1 ?side2 A122.out).mono ?_); (case side1 => repeat (first | exact (Kd.R_reads' HO_233001.out).2.2 | (with_reducible refine Kd.C_alloc ?_ _) | (with_reducible refine Kd.C_drewN ?_ _) | (with_reducible refine Kd.C_drew ?_))); (case side2 => exact (Kd.R_reads' HO_233001.out).2.1); rintro e w132 ⟨v281, rfl, ho0, hb⟩; refine ⟨_, rfl, ?_⟩; have n0_ := Aside0.mk (Kd.R_elder' (by (with_reducible repeat (first | apply Kd.R_alloc | apply Kd.R_drewN | apply Kd.R_drew)); exact HO_233001.out) (Kd.R_base ho0) hb); have n1_ := Aside0.mk (Kd.R_elder' (by (with_reducible repeat (first | apply Kd.R_alloc | apply Kd.R_drewN | apply Kd.R_drew)); exact HO_245001.out) (Kd.R_base ho0) hb); have n2_ := Aside0.mk (Kd.V_elder' (by (with_reducible repeat (first | apply Kd.V_alloc | apply Kd.V_drewN | apply Kd.V_drew)); exact HO_253001.out) (Kd.R_base ho0) hb); have n3_ := Aside0.mk (Kd.V_elder' (by (with_reducible repeat (first | apply Kd.V_alloc | apply Kd.V_drewN | apply Kd.V_drew)); exact HO_261001.out) (Kd.R_base ho0) hb); have n4_ := Aside0.mk (Kd.R_elder' (by (with_reducible repeat (first | apply Kd.R_alloc | apply Kd.R_drewN | apply Kd.R_drew)); exact HO_269001.out) (Kd.R_base ho0) hb); have n5_ := Aside0.mk (Kd.R_lower (Kd.R_new' (Kd.R_new' (Kd.R_new' ho0 (Kd.R_lt (by (with_reducible repeat (first | apply Kd.R_alloc | apply Kd.R_drewN | apply Kd.R_drew)); exact HO_233001.out))) (Kd.R_lt (by (with_reducible repeat (first | apply Kd.R_alloc | apply Kd.R_drewN | apply Kd.R_drew)); exact HO_245001.out))) (Kd.R_lt (by (with_reducible repeat (first | apply Kd.R_alloc | apply Kd.R_drewN | apply Kd.R_drew)); exact HO_269001.out))) (below_size (by repeat (first | (with_reducible first | exact HB.out | apply below_alloc | apply pw_below_drewN | apply below_drew1 | refine below_set ?_ GE232.out | refine below_set ?_ GE244.out | refine below_set ?_ GE252.out | refine below_set ?_ GE260.out | refine below_set ?_ GE268.out | refine below_set ?_ GE269.out) | exact HB.out)))); have n6_ := Aside0.mk (blk_below (g := gb232) (o := .cells #[.int .i64 t233, .slice Ao17 t234.length co17, .int .i64 t237] 35 (0, 0)) (by (with_reducible repeat (first | refine blk_drewN ?_ _ | refine blk_drew ?_ | refine blk_alloc ?_ _)); exact BK232.out) hb); have n7_ := Aside0.mk (blk_below (g := gb244) (o := .cells #[.int .i64 t238, .slice Ao24 t239.length co24, .int .i64 t242] 35 (0, 0)) (by (with_reducible repeat (first | refine blk_drewN ?_ _ | refine blk_drew ?_ | refine blk_alloc ?_ _)); exact BK244.out) hb); have n8_ := Aside0.mk (blk_below (g := gb252) (o := .cells #[.int .i64 t245, .slice Ao32 t246.length co32, .int .i64 t249] 35 (0, 0)) (by (with_reducible repeat (first | refine blk_drewN ?_ _ | refine blk_drew ?_ | refine blk_alloc ?_ _)); exact BK252.out) hb); have n9_ := Aside0.mk (blk_below (g := gb260) (o := .cells #[.int .i64 t253, .slice Ao41 t254.length co41, .int .i64 t257] 35 (0, 0)) (by (with_reducible repeat (first | refine blk_drewN ?_ _ | refine blk_drew ?_ | refine blk_alloc ?_ _)); exact BK260.out) hb); have n10_ := Aside0.mk (blk_below (g := gb268) (o := .cells #[.int .i64 t261, .slice Ao50 t262.length co50, .int .i64 t265] 35 (0, 0)) (by (with_reducible repeat (first | refine blk_drewN ?_ _ | refine blk_drew ?_ | refine blk_alloc ?_ _)); exact BK268.out) hb); have n11_ := Aside0.mk (blk_below (g := gb269) (o := .cells #[.int .i64 0, .slice none 0 0, .int .i64 0] 35 (0, 0)) (by (with_reducible repeat (first | refine blk_drewN ?_ _ | refine blk_drew ?_ | refine blk_alloc ?_ _)); exact BK269.out) hb); have n12_ := Aside0.mk (below_step (by repeat (first | (with_reducible first | exact HB.out | apply below_alloc | apply pw_below_drewN | apply below_drew1 | refine below_set ?_ GE232.out | refine below_set ?_ GE244.out | refine below_set ?_ GE252.out | refine below_set ?_ GE260.out | refine below_set ?_ GE268.out | refine below_set ?_ GE269.out) | exact HB.out)) hb); clear HO_233001; clear HO_245001; clear HO_253001; clear HO_261001; clear HO_269001; clear BK232; clear BK244; clear BK252; clear BK260; clear BK268; clear BK269; clear HB; have HO_233001 := n0_; have HO_245001 := n1_; have HO_253001 := n2_; have HO_261001 := n3_; have HO_269001 := n4_; have HO282 := n5_; have BK232 := n6_; have BK244 := n7_; have BK252 := n8_; have BK260 := n9_; have BK268 := n10_; have BK269 := n11_; have HB := n12_; clear n0_ n1_ n2_ n3_ n4_ n5_ n6_ n7_ n8_ n9_ n10_ n11_ n12_; (try clear hb); (try clear hb2); (try clear hk); (try clear hi); (try clear ho0)) | ((with_reducible refine gate_dst (N := 19) rfl ?_); refine box_event ?hg (N := 19) ?hd (cs := #[.int .i64 0, .slice none 0 0, .int .i64 0]) (t := 35) ?hr ?_; (case hd => rfl); (case hg => rfl); (case hr => first | (go_simp; done) | (go_simp; rfl)); intro gb285 hg w133 hbox hb; have n0_ := Aside0.mk (Kd.R_below (by (with_reducible repeat (first | apply Kd.R_alloc | apply Kd.R_drewN | apply Kd.R_drew)); exact HO_233001.out) hb); have n1_ := Aside0.mk (Kd.R_below (by (with_reducible repeat (first | apply Kd.R_alloc | apply Kd.R_drewN | apply Kd.R_drew)); exact HO_245001.out) hb); have n2_ := Aside0.mk (Kd.V_below (Kd.V_elderB (by (with_reducible repeat (first | apply Kd.V_alloc | apply Kd.V_drewN | apply Kd.V_drew)); exact HO_253001.out) gb285 (Nat.le_of_eq hg.symm)) hb); have n3_ := Aside0.mk (Kd.V_below (Kd.V_elderB (by (with_reducible repeat (first | apply Kd.V_alloc | apply Kd.V_drewN | apply Kd.V_drew)); exact HO_261001.out) gb285 (Nat.le_of_eq hg.symm)) hb); have n4_ := Aside0.mk (Kd.R_below (by (with_reducible repeat (first | apply Kd.R_alloc | apply Kd.R_drewN | apply Kd.R_drew)); exact HO_269001.out) hb); have n5_ := Aside0.mk (Kd.R_below (by (with_reducible repeat (first | apply Kd.R_alloc | apply Kd.R_drewN | apply Kd.R_drew)); exact HO282.out) hb); have n6_ := Aside0.mk (blk_below (g := gb232) (o := .cells #[.int .i64 t233, .slice Ao17 t234.length co17, .int .i64 t237] 35 (0, 0)) (by (with_reducible repeat (first | refine blk_drewN ?_ _ | refine blk_drew ?_ | refine blk_alloc ?_ _)); exact BK232.out) hb); have n7_ := Aside0.mk (blk_below (g := gb244) (o := .cells #[.int .i64 t238, .slice Ao24 t239.length co24, .int .i64 t242] 35 (0, 0)) (by (with_reducible repeat (first | refine blk_drewN ?_ _ | refine blk_drew ?_ | refine blk_alloc ?_ _)); exact BK244.out) hb); have n8_ := Aside0.mk (blk_below (g := gb252) (o := .cells #[.int .i64 t245, .slice Ao32 t246.length co32, .int .i64 t249] 35 (0, 0)) (by (with_reducible repeat (first | refine blk_drewN ?_ _ | refine blk_drew ?_ | refine blk_alloc ?_ _)); exact BK252.out) hb); have n9_ := Aside0.mk (blk_below (g := gb260) (o := .cells #[.int .i64 t253, .slice Ao41 t254.length co41, .int .i64 t257] 35 (0, 0)) (by (with_reducible repeat (first | refine blk_drewN ?_ _ | refine blk_drew ?_ | refine blk_alloc ?_ _)); exact BK260.out) hb); have n10_ := Aside0.mk (blk_below (g := gb268) (o := .cells #[.int .i64 t261, .slice Ao50 t262.length co50, .int .i64 t265] 35 (0, 0)) (by (with_reducible repeat (first | refine blk_drewN ?_ _ | refine blk_drew ?_ | refine blk_alloc ?_ _)); exact BK268.out) hb); have n11_ := Aside0.mk (blk_below (g := gb269) (o := .cells #[.int .i64 0, .slice none 0 0, .int .i64 0] 35 (0, 0)) (by (with_reducible repeat (first | refine blk_drewN ?_ _ | refine blk_drew ?_ | refine blk_alloc ?_ _)); exact BK269.out) hb); have n12_ := Aside0.mk (below_step (by repeat (first | (with_reducible first | exact HB.out | apply below_alloc | apply pw_below_drewN | apply below_drew1 | refine below_set ?_ GE232.out | refine below_set ?_ GE244.out | refine below_set ?_ GE252.out | refine below_set ?_ GE260.out | refine below_set ?_ GE268.out | refine below_set ?_ GE269.out) | exact HB.out)) hb); have n13_ := Aside0.mk (hbox); have n14_ := Aside0.mk ((by rw [hg]; exact (below_size (by repeat (first | (with_reducible first | exact HB.out | apply below_alloc | apply pw_below_drewN | apply below_drew1 | refine below_set ?_ GE232.out | refine below_set ?_ GE244.out | refine below_set ?_ GE252.out | refine below_set ?_ GE260.out | refine below_set ?_ GE268.out | refine below_set ?_ GE269.out) | exact HB.out))) : w.heap.size ≤ gb285)); have n15_ := Aside0.mk ((by rw [hg]; exact (below_size (by repeat (first | (with_reducible first | exact HB.out | apply below_alloc | apply pw_below_drewN | apply below_drew1 | refine below_set ?_ GE232.out | refine below_set ?_ GE244.out | refine below_set ?_ GE252.out | refine below_set ?_ GE260.out | refine below_set ?_ GE268.out | refine below_set ?_ GE269.out) | exact HB.out))) : w.heap.size ≤ gb285)); have n16_ := Aside0.mk ((by rw [hg]; exact Nat.ne_of_lt (blk_lt (g := gb232) (o := .cells #[.int .i64 t233, .slice Ao17 t234.length co17, .int .i64 t237] 35 (0, 0)) (by (with_reducible repeat (first | refine blk_drewN ?_ _ | refine blk_drew ?_ | refine blk_alloc ?_ _)); exact BK232.out)) : gb232 ≠ gb285)); have n17_ := Aside0.mk ((by rw [hg]; exact Nat.ne_of_gt (blk_lt (g := gb232) (o := .cells #[.int .i64 t233, .slice Ao17 t234.length co17, .int .i64 t237] 35 (0, 0)) (by (with_reducible repeat (first | refine blk_drewN ?_ _ | refine blk_drew ?_ | refine blk_alloc ?_ _)); exact BK232.out)) : gb285 ≠ gb232)); have n18_ := Aside0.mk ((by rw [hg]; exact Nat.ne_of_lt (blk_lt (g := gb244) (o := .cells #[.int .i64 t238, .slice Ao24 t239.length co24, .int .i64 t242] 35 (0, 0)) (by (with_reducible repeat (first | refine blk_drewN ?_ _ | refine blk_drew ?_ | refine blk_alloc ?_ _)); exact BK244.out)) : gb244 ≠ gb285)); have n19_ := Aside0.mk ((by rw [hg]; exact Nat.ne_of_gt (blk_lt (g := gb244) (o := .cells #[.int .i64 t238, .slice Ao24 t239.length co24, .int .i64 t242] 35 (0, 0)) (by (with_reducible repeat (first | refine blk_drewN ?_ _ | refine blk_drew ?_ | refine blk_alloc ?_ _)); exact BK244.out)) : gb285 ≠ gb244)); have n20_ := Aside0.mk ((by rw [hg]; exact Nat.ne_of_lt (blk_lt (g := gb252) (o := .cells #[.int .i64 t245, .slice Ao32 t246.length co32, .int .i64 t249] 35 (0, 0)) (by (with_reducible repeat (first | refine blk_drewN ?_ _ | refine blk_drew ?_ | refine blk_alloc ?_ _)); exact BK252.out)) : gb252 ≠ gb285)); have n21_ := Aside0.mk ((by rw [hg]; exact Nat.ne_of_gt (blk_lt (g := gb252) (o := .cells #[.int .i64 t245, .slice Ao32 t246.length co32, .int .i64 t249] 35 (0, 0)) (by (with_reducible repeat (first | refine blk_drewN ?_ _ | refine blk_drew ?_ | refine blk_alloc ?_ _)); exact BK252.out)) : gb285 ≠ gb252)); have n22_ := Aside0.mk ((by rw [hg]; exact Nat.ne_of_lt (blk_lt (g := gb260) (o := .cells #[.int .i64 t253, .slice Ao41 t254.length co41, .int .i64 t257] 35 (0, 0)) (by (with_reducible repeat (first | refine blk_drewN ?_ _ | refine blk_drew ?_ | refine blk_alloc ?_ _)); exact BK260.out)) : gb260 ≠ gb285)); have n23_ := Aside0.mk ((by rw [hg]; exact Nat.ne_of_gt (blk_lt (g := gb260) (o := .cells #[.int .i64 t253, .slice Ao41 t254.length co41, .int .i64 t257] 35 (0, 0)) (by (with_reducible repeat (first | refine blk_drewN ?_ _ | refine blk_drew ?_ | refine blk_alloc ?_ _)); exact BK260.out)) : gb285 ≠ gb260)); have n24_ := Aside0.mk ((by rw [hg]; exact Nat.ne_of_lt (blk_lt (g := gb268) (o := .cells #[.int .i64 t261, .slice Ao50 t262.length co50, .int .i64 t265] 35 (0, 0)) (by (with_reducible repeat (first | refine blk_drewN ?_ _ | refine blk_drew ?_ | refine blk_alloc ?_ _)); exact BK268.out)) : gb268 ≠ gb285)); have n25_ := Aside0.mk ((by rw [hg]; exact Nat.ne_of_gt (blk_lt (g := gb268) (o := .cells #[.int .i64 t261, .slice Ao50 t262.length co50, .int .i64 t265] 35 (0, 0)) (by (with_reducible repeat (first | refine blk_drewN ?_ _ | refine blk_drew ?_ | refine blk_alloc ?_ _)); exact BK268.out)) : gb285 ≠ gb268)); have n26_ := Aside0.mk ((by rw [hg]; exact Nat.ne_of_lt (blk_lt (g := gb269) (o := .cells #[.int .i64 0, .slice none 0 0, .int .i64 0] 35 (0, 0)) (by (with_reducible repeat (first | refine blk_drewN ?_ _ | refine blk_drew ?_ | refine blk_alloc ?_ _)); exact BK269.out)) : gb269 ≠ gb285)); have n27_ := Aside0.mk ((by rw [hg]; exact Nat.ne_of_gt (blk_lt (g := gb269) (o := .cells #[.int .i64 0, .slice none 0 0, .int .i64 0] 35 (0, 0)) (by (with_reducible repeat (first | refine blk_drewN ?_ _ | refine blk_drew ?_ | refine blk_alloc ?_ _)); exact BK269.out)) : gb285 ≠ gb269)); clear HO_233001; clear HO_245001; clear HO_253001; clear HO_261001; clear HO_269001; clear HO282; clear BK232; clear BK244; clear BK252; clear BK260; clear BK268; clear BK269; clear HB; have HO_233001 := n0_; have HO_245001 := n1_; have HO_253001 := n2_; have HO_261001 := n3_; have HO_269001 := n4_; have HO282 := n5_; have BK232 := n6_; have BK244 := n7_; have BK252 := n8_; have BK260 := n9_; have BK268 := n10_; have BK269 := n11_; have HB := n12_; have BK285 := n13_; have GW285 := n14_; have GE285 := n15_; have NB232_285 := n16_; have NB285_232 := n17_; have NB244_285 := n18_; have NB285_244 := n19_; have NB252_285 := n20_; have NB285_252 := n21_; have NB260_285 := n22_; have NB285_260 := n23_; have NB268_285 := n24_; have NB285_268 := n25_; have NB269_285 := n26_; have NB285_269 := n27_; clear n0_ n1_ n2_ n3_ n4_ n5_ n6_ n7_ n8_ n9_ n10_ n11_ n12_ n13_ n14_ n15_ n16_ n17_ n18_ n19_ n20_ n21_ n22_ n23_ n24_ n25_ n26_ n27_; clear hb hbox hg; have hnb134 := NB285_232.out; have hnc134 := NB232_285.out; have hnb135 := NB285_244.out; have hnc135 := NB244_285.out; have hnb136 := NB285_252.out; have hnc136 := NB252_285.out; have hnb137 := NB285_260.out; have hnc137 := NB260_285.out; have hnb138 := NB285_268.out; have hnc138 := NB268_285.out; have hnb139 := NB285_269.out; have hnc139 := NB269_285.out; have hcz140_0 : w133.cell? ⟨gb285, 0, none⟩ = some (.int .i64 0) := (blk_cell BK285.out 0).trans rfl; have hcz140_1 : w133.cell? ⟨gb285, 1, none⟩ = some (.slice none 0 0) := (blk_cell BK285.out 1).trans rfl; have hcz140_2 : w133.cell? ⟨gb285, 2, none⟩ = some (.int .i64 0) := (blk_cell BK285.out 2).trans rfl; have hfz140_0 := blk_frozen BK285.out 0; have hfz140_1 := blk_frozen BK285.out 1; have hfz140_2 := blk_frozen BK285.out 2; obtain ⟨Ao141, co141, eo141⟩ := Kd.R_slice HO282.out; subst eo141))
                (try simp only [Act.put, List.setIfInBounds_toArray, List.set_cons_zero, List.set_cons_succ])
                go_cut [144] (fun v144 wc => ∃ (kq : Nat) (x144_122 : Bool), v144 = .bool x144_122 ∧ Aside0 (footwaylaw09_QueueTells.j3 kq (a2.extract 0 ((ji5) : Int).toNat) t250 t251 t258 t259 x144_122 t233 t234 t237 t245 t246 t249 t253 t254 t257 0 0 = some r) ∧ Aside0 (kq ≤ kj73) ∧ Aside0 (Kd.R Kd.string 9 wc w.heap.size (fun k_ => some k_ ≠ ((.slice Ao24 t239.length co24) : Value).ownBlock ∧ some k_ ≠ ((.slice Ao50 t262.length co50) : Value).ownBlock ∧ some k_ ≠ ((.slice Ao141 t280.length co141) : Value).ownBlock) (.slice Ao17 t234.length co17) t234) ∧ Aside0 (Kd.R Kd.string 9 wc w.heap.size (fun k_ => some k_ ≠ ((.slice Ao17 t234.length co17) : Value).ownBlock ∧ some k_ ≠ ((.slice Ao50 t262.length co50) : Value).ownBlock ∧ some k_ ≠ ((.slice Ao141 t280.length co141) : Value).ownBlock) (.slice Ao24 t239.length co24) t239) ∧ Aside0 (Kd.V Kd.string 9 wc w.heap.size (fun k_ => some k_ ≠ ((.slice Ao24 t239.length co24) : Value).ownBlock ∧ some k_ ≠ ((.slice Ao50 t262.length co50) : Value).ownBlock ∧ some k_ ≠ ((.slice Ao141 t280.length co141) : Value).ownBlock ∧ k_ ≠ gb232 ∧ k_ ≠ gb244 ∧ k_ ≠ gb252 ∧ k_ ≠ gb260 ∧ k_ ≠ gb268 ∧ k_ ≠ gb269 ∧ k_ ≠ gb285) (.slice Ao32 t246.length co32) t246) ∧ Aside0 (Kd.V Kd.string 9 wc w.heap.size (fun k_ => some k_ ≠ ((.slice Ao24 t239.length co24) : Value).ownBlock ∧ some k_ ≠ ((.slice Ao50 t262.length co50) : Value).ownBlock ∧ some k_ ≠ ((.slice Ao141 t280.length co141) : Value).ownBlock ∧ k_ ≠ gb232 ∧ k_ ≠ gb244 ∧ k_ ≠ gb252 ∧ k_ ≠ gb260 ∧ k_ ≠ gb268 ∧ k_ ≠ gb269 ∧ k_ ≠ gb285) (.slice Ao41 t254.length co41) t254) ∧ Aside0 (Kd.R Kd.string 9 wc w.heap.size (fun k_ => some k_ ≠ ((.slice Ao17 t234.length co17) : Value).ownBlock ∧ some k_ ≠ ((.slice Ao24 t239.length co24) : Value).ownBlock ∧ some k_ ≠ ((.slice Ao141 t280.length co141) : Value).ownBlock) (.slice Ao50 t262.length co50) t262) ∧ Aside0 (Kd.R Kd.string 9 wc w.heap.size (fun k_ => some k_ ≠ ((.slice Ao17 t234.length co17) : Value).ownBlock ∧ some k_ ≠ ((.slice Ao24 t239.length co24) : Value).ownBlock ∧ some k_ ≠ ((.slice Ao50 t262.length co50) : Value).ownBlock) (.slice Ao141 t280.length co141) t280) ∧ Aside0 (wc.heap[gb232]? = some (.cells #[.int .i64 t233, (.slice Ao17 t234.length co17), .int .i64 t237] 35 (0, 0))) ∧ Aside0 (wc.heap[gb244]? = some (.cells #[.int .i64 t238, (.slice Ao24 t239.length co24), .int .i64 t242] 35 (0, 0))) ∧ Aside0 (wc.heap[gb252]? = some (.cells #[.int .i64 t245, (.slice Ao32 t246.length co32), .int .i64 t249] 35 (0, 0))) ∧ Aside0 (wc.heap[gb260]? = some (.cells #[.int .i64 t253, (.slice Ao41 t254.length co41), .int .i64 t257] 35 (0, 0))) ∧ Aside0 (wc.heap[gb268]? = some (.cells #[.int .i64 t261, (.slice Ao50 t262.length co50), .int .i64 t265] 35 (0, 0))) ∧ Aside0 (wc.heap[gb269]? = some (.cells #[.int .i64 0, (.slice none 0 0), .int .i64 0] 35 (0, 0))) ∧ Aside0 (wc.heap[gb285]? = some (.cells #[.int .i64 t279, (.slice Ao141 t280.length co141), .int .i64 t283] 35 (0, 0))) ∧ Aside0 (Below w.heap.size w wc))
                case first =>
                 as_aux_lemma =>
                  have H := HC123.out
                  clear HC123
                  by_cases c142 : t267 = 0
                  · rw [if_pos c142] at H
                    have c142b0 : (t267 == 0) = true := beq_iff_eq.mpr c142
                    have c142b1 : (t267 != 0) = false := bne_eq_false_iff_eq.mpr c142
                    clear c142
                    (first | rw [c142b0] | (simp only [i64_w, i32_w]; rw [c142b0]) | skip)
                    by_cases c143 : t266 = t284
                    · rw [if_pos c143] at H
                      have c143b0 : (t266 == t284) = true := beq_iff_eq.mpr c143
                      have c143b1 : (t266 != t284) = false := bne_eq_false_iff_eq.mpr c143
                      clear c143
                      replace H := Option.bind_eq_some_iff.mp H
                      obtain ⟨t286, A1440, H⟩ := H
                      replace H : (footwaylaw09_QueueTells.j3 kj73 (a2.extract 0 ((ji5) : Int).toNat) t250 t251 t258 t259 (!t286) t233 t234 t237 t245 t246 t249 t253 t254 t257 0 0) = some r := H
                      have A144 := Aside0.mk A1440
                      clear A1440
                      have H' := Aside0.mk H
                      clear H
                      have hnb145 := NB268_232.out
                      have hnc145 := NB232_268.out
                      have hnb146 := NB268_244.out
                      have hnc146 := NB244_268.out
                      have hnb147 := NB268_252.out
                      have hnc147 := NB252_268.out
                      have hnb148 := NB268_260.out
                      have hnc148 := NB260_268.out
                      have hnb149 := NB268_269.out
                      have hnc149 := NB269_268.out
                      have hnb150 := NB268_285.out
                      have hnc150 := NB285_268.out
                      have hcz151_0 : w133.cell? ⟨gb268, 0, none⟩ = some (.int .i64 t261) := (blk_cell BK268.out 0).trans rfl
                      have hcz151_1 : w133.cell? ⟨gb268, 1, none⟩ = some (.slice Ao50 t262.length co50) := (blk_cell BK268.out 1).trans rfl
                      have hcz151_2 : w133.cell? ⟨gb268, 2, none⟩ = some (.int .i64 t265) := (blk_cell BK268.out 2).trans rfl
                      have hfz151_0 := blk_frozen BK268.out 0
                      have hfz151_1 := blk_frozen BK268.out 1
                      have hfz151_2 := blk_frozen BK268.out 2
                      have hnb152 := NB285_232.out
                      have hnc152 := NB232_285.out
                      have hnb153 := NB285_244.out
                      have hnc153 := NB244_285.out
                      have hnb154 := NB285_252.out
                      have hnc154 := NB252_285.out
                      have hnb155 := NB285_260.out
                      have hnc155 := NB260_285.out
                      have hnb156 := NB285_269.out
                      have hnc156 := NB269_285.out
                      have hcz157_0 : w133.cell? ⟨gb285, 0, none⟩ = some (.int .i64 0) := (blk_cell BK285.out 0).trans rfl
                      have hcz157_1 : w133.cell? ⟨gb285, 1, none⟩ = some (.slice none 0 0) := (blk_cell BK285.out 1).trans rfl
                      have hcz157_2 : w133.cell? ⟨gb285, 2, none⟩ = some (.int .i64 0) := (blk_cell BK285.out 2).trans rfl
                      have hfz157_0 := blk_frozen BK285.out 0
                      have hfz157_1 := blk_frozen BK285.out 1
                      have hfz157_2 := blk_frozen BK285.out 2
                      go_wp2_with (first | (go_at_call 28; (with_reducible refine (footwayref09_Same.calls kj73 t261 _ _ t262 t265 t279 _ _ t280 t283 t286 _ ?side1 ?side2 ?side3 ?side4 A144.out).mono ?_); (case side1 => refine (Kd.R_reads' (e := 9) (base := w.heap.size) (ok := fun k_ => ((some k_ ≠ (.slice Ao17 t234.length co17 : Value).ownBlock ∧ some k_ ≠ (.slice Ao24 t239.length co24 : Value).ownBlock) ∧ some k_ ≠ (.slice Ao141 t280.length co141 : Value).ownBlock)) (n := t262.length) (c := co50) ?_).2.2; exact (by (with_reducible repeat (first | apply Kd.R_alloc | apply Kd.R_drewN | apply Kd.R_drew)); exact (Kd.R_mono (Kd.R_far (p := ⟨gb285, 2, none⟩) (Kd.R_far (p := ⟨gb285, 1, none⟩) (Kd.R_far (p := ⟨gb285, 0, none⟩) (Kd.R_types HO_269001.out BK285.out (by decide)) (fun _ hk => hk.2) (.int .i64 t279)) (fun _ hk => hk.2) (.slice Ao141 t280.length co141)) (fun _ hk => hk.2) (.int .i64 t283)) (fun _ h_ => h_.1)))); (case side2 => exact (Kd.R_reads' HO_269001.out).2.1); (case side3 => refine (Kd.R_reads' (e := 9) (base := w.heap.size) (ok := fun k_ => (((True ∧ some k_ ≠ (.slice Ao17 t234.length co17 : Value).ownBlock) ∧ some k_ ≠ (.slice Ao24 t239.length co24 : Value).ownBlock) ∧ some k_ ≠ (.slice Ao50 t262.length co50 : Value).ownBlock)) (n := t280.length) (c := co141) ?_).2.2; exact (by (with_reducible repeat (first | apply Kd.R_alloc | apply Kd.R_drewN | apply Kd.R_drew)); exact (Kd.R_mono (Kd.R_far (p := ⟨gb285, 2, none⟩) (Kd.R_far (p := ⟨gb285, 1, none⟩) (Kd.R_far (p := ⟨gb285, 0, none⟩) (Kd.R_types HO282.out BK285.out (by decide)) (fun _ hk => hk.2) (.int .i64 t279)) (fun _ hk => hk.2) (.slice Ao141 t280.length co141)) (fun _ hk => hk.2) (.int .i64 t283)) (fun _ h_ => h_.1)))); (case side4 => exact (Kd.R_reads' HO282.out).2.1); rintro e w158 ⟨rfl, hb⟩; have n0_ := Aside0.mk (Kd.R_below (by (with_reducible repeat (first | apply Kd.R_alloc | apply Kd.R_drewN | apply Kd.R_drew)); exact (Kd.R_mono (Kd.R_far (p := ⟨gb285, 2, none⟩) (Kd.R_far (p := ⟨gb285, 1, none⟩) (Kd.R_far (p := ⟨gb285, 0, none⟩) (Kd.R_types HO_233001.out BK285.out (by decide)) (fun _ hk => hk.2) (.int .i64 t279)) (fun _ hk => hk.2) (.slice Ao141 t280.length co141)) (fun _ hk => hk.2) (.int .i64 t283)) (fun _ h_ => h_.1))) hb); have n1_ := Aside0.mk (Kd.R_below (by (with_reducible repeat (first | apply Kd.R_alloc | apply Kd.R_drewN | apply Kd.R_drew)); exact (Kd.R_mono (Kd.R_far (p := ⟨gb285, 2, none⟩) (Kd.R_far (p := ⟨gb285, 1, none⟩) (Kd.R_far (p := ⟨gb285, 0, none⟩) (Kd.R_types HO_245001.out BK285.out (by decide)) (fun _ hk => hk.2) (.int .i64 t279)) (fun _ hk => hk.2) (.slice Ao141 t280.length co141)) (fun _ hk => hk.2) (.int .i64 t283)) (fun _ h_ => h_.1))) hb); have n2_ := Aside0.mk (Kd.V_below (by (with_reducible repeat (first | apply Kd.V_alloc | apply Kd.V_drewN | apply Kd.V_drew)); exact (Kd.V_mono (Kd.V_far (p := ⟨gb285, 2, none⟩) (Kd.V_far (p := ⟨gb285, 1, none⟩) (Kd.V_far (p := ⟨gb285, 0, none⟩) (Kd.V_mono HO_253001.out (fun k_ hk => (⟨hk, hk.2⟩ : _ ∧ k_ ≠ gb285))) (fun _ hk => hk.2) (.int .i64 t279)) (fun _ hk => hk.2) (.slice Ao141 t280.length co141)) (fun _ hk => hk.2) (.int .i64 t283)) (fun _ h_ => h_.1))) hb); have n3_ := Aside0.mk (Kd.V_below (by (with_reducible repeat (first | apply Kd.V_alloc | apply Kd.V_drewN | apply Kd.V_drew)); exact (Kd.V_mono (Kd.V_far (p := ⟨gb285, 2, none⟩) (Kd.V_far (p := ⟨gb285, 1, none⟩) (Kd.V_far (p := ⟨gb285, 0, none⟩) (Kd.V_mono HO_261001.out (fun k_ hk => (⟨hk, hk.2⟩ : _ ∧ k_ ≠ gb285))) (fun _ hk => hk.2) (.int .i64 t279)) (fun _ hk => hk.2) (.slice Ao141 t280.length co141)) (fun _ hk => hk.2) (.int .i64 t283)) (fun _ h_ => h_.1))) hb); have n4_ := Aside0.mk (Kd.R_below (by (with_reducible repeat (first | apply Kd.R_alloc | apply Kd.R_drewN | apply Kd.R_drew)); exact (Kd.R_mono (Kd.R_far (p := ⟨gb285, 2, none⟩) (Kd.R_far (p := ⟨gb285, 1, none⟩) (Kd.R_far (p := ⟨gb285, 0, none⟩) (Kd.R_types HO_269001.out BK285.out (by decide)) (fun _ hk => hk.2) (.int .i64 t279)) (fun _ hk => hk.2) (.slice Ao141 t280.length co141)) (fun _ hk => hk.2) (.int .i64 t283)) (fun _ h_ => h_.1))) hb); have n5_ := Aside0.mk (Kd.R_below (by (with_reducible repeat (first | apply Kd.R_alloc | apply Kd.R_drewN | apply Kd.R_drew)); exact (Kd.R_mono (Kd.R_far (p := ⟨gb285, 2, none⟩) (Kd.R_far (p := ⟨gb285, 1, none⟩) (Kd.R_far (p := ⟨gb285, 0, none⟩) (Kd.R_types HO282.out BK285.out (by decide)) (fun _ hk => hk.2) (.int .i64 t279)) (fun _ hk => hk.2) (.slice Ao141 t280.length co141)) (fun _ hk => hk.2) (.int .i64 t283)) (fun _ h_ => h_.1))) hb); have n6_ := Aside0.mk (blk_below (g := gb232) (o := .cells #[.int .i64 t233, .slice Ao17 t234.length co17, .int .i64 t237] 35 (0, 0)) (by (with_reducible repeat (first | refine blk_drewN ?_ _ | refine blk_drew ?_ | refine blk_alloc ?_ _)); refine blk_far ?_ NB232_285.out _; (with_reducible repeat (first | refine blk_drewN ?_ _ | refine blk_drew ?_ | refine blk_alloc ?_ _)); refine blk_far ?_ NB232_285.out _; (with_reducible repeat (first | refine blk_drewN ?_ _ | refine blk_drew ?_ | refine blk_alloc ?_ _)); refine blk_far ?_ NB232_285.out _; (with_reducible repeat (first | refine blk_drewN ?_ _ | refine blk_drew ?_ | refine blk_alloc ?_ _)); exact BK232.out) hb); have n7_ := Aside0.mk (blk_below (g := gb244) (o := .cells #[.int .i64 t238, .slice Ao24 t239.length co24, .int .i64 t242] 35 (0, 0)) (by (with_reducible repeat (first | refine blk_drewN ?_ _ | refine blk_drew ?_ | refine blk_alloc ?_ _)); refine blk_far ?_ NB244_285.out _; (with_reducible repeat (first | refine blk_drewN ?_ _ | refine blk_drew ?_ | refine blk_alloc ?_ _)); refine blk_far ?_ NB244_285.out _; (with_reducible repeat (first | refine blk_drewN ?_ _ | refine blk_drew ?_ | refine blk_alloc ?_ _)); refine blk_far ?_ NB244_285.out _; (with_reducible repeat (first | refine blk_drewN ?_ _ | refine blk_drew ?_ | refine blk_alloc ?_ _)); exact BK244.out) hb); have n8_ := Aside0.mk (blk_below (g := gb252) (o := .cells #[.int .i64 t245, .slice Ao32 t246.length co32, .int .i64 t249] 35 (0, 0)) (by (with_reducible repeat (first | refine blk_drewN ?_ _ | refine blk_drew ?_ | refine blk_alloc ?_ _)); refine blk_far ?_ NB252_285.out _; (with_reducible repeat (first | refine blk_drewN ?_ _ | refine blk_drew ?_ | refine blk_alloc ?_ _)); refine blk_far ?_ NB252_285.out _; (with_reducible repeat (first | refine blk_drewN ?_ _ | refine blk_drew ?_ | refine blk_alloc ?_ _)); refine blk_far ?_ NB252_285.out _; (with_reducible repeat (first | refine blk_drewN ?_ _ | refine blk_drew ?_ | refine blk_alloc ?_ _)); exact BK252.out) hb); have n9_ := Aside0.mk (blk_below (g := gb260) (o := .cells #[.int .i64 t253, .slice Ao41 t254.length co41, .int .i64 t257] 35 (0, 0)) (by (with_reducible repeat (first | refine blk_drewN ?_ _ | refine blk_drew ?_ | refine blk_alloc ?_ _)); refine blk_far ?_ NB260_285.out _; (with_reducible repeat (first | refine blk_drewN ?_ _ | refine blk_drew ?_ | refine blk_alloc ?_ _)); refine blk_far ?_ NB260_285.out _; (with_reducible repeat (first | refine blk_drewN ?_ _ | refine blk_drew ?_ | refine blk_alloc ?_ _)); refine blk_far ?_ NB260_285.out _; (with_reducible repeat (first | refine blk_drewN ?_ _ | refine blk_drew ?_ | refine blk_alloc ?_ _)); exact BK260.out) hb); have n10_ := Aside0.mk (blk_below (g := gb268) (o := .cells #[.int .i64 t261, .slice Ao50 t262.length co50, .int .i64 t265] 35 (0, 0)) (by (with_reducible repeat (first | refine blk_drewN ?_ _ | refine blk_drew ?_ | refine blk_alloc ?_ _)); refine blk_far ?_ NB268_285.out _; (with_reducible repeat (first | refine blk_drewN ?_ _ | refine blk_drew ?_ | refine blk_alloc ?_ _)); refine blk_far ?_ NB268_285.out _; (with_reducible repeat (first | refine blk_drewN ?_ _ | refine blk_drew ?_ | refine blk_alloc ?_ _)); refine blk_far ?_ NB268_285.out _; (with_reducible repeat (first | refine blk_drewN ?_ _ | refine blk_drew ?_ | refine blk_alloc ?_ _)); exact BK268.out) hb); have n11_ := Aside0.mk (blk_below (g := gb269) (o := .cells #[.int .i64 0, .slice none 0 0, .int .i64 0] 35 (0, 0)) (by (with_reducible repeat (first | refine blk_drewN ?_ _ | refine blk_drew ?_ | refine blk_alloc ?_ _)); refine blk_far ?_ NB269_285.out _; (with_reducible repeat (first | refine blk_drewN ?_ _ | refine blk_drew ?_ | refine blk_alloc ?_ _)); refine blk_far ?_ NB269_285.out _; (with_reducible repeat (first | refine blk_drewN ?_ _ | refine blk_drew ?_ | refine blk_alloc ?_ _)); refine blk_far ?_ NB269_285.out _; (with_reducible repeat (first | refine blk_drewN ?_ _ | refine blk_drew ?_ | refine blk_alloc ?_ _)); exact BK269.out) hb); have n12_ := Aside0.mk (blk_below (g := gb285) (o := .cells #[.int .i64 t279, .slice Ao141 t280.length co141, .int .i64 t283] 35 (0, 0)) (by (with_reducible repeat (first | refine blk_drewN ?_ _ | refine blk_drew ?_ | refine blk_alloc ?_ _)); refine blk_put (cs := #[.int .i64 t279, .slice Ao141 t280.length co141, .int .i64 0]) ?_ 2 _ rfl; (with_reducible repeat (first | refine blk_drewN ?_ _ | refine blk_drew ?_ | refine blk_alloc ?_ _)); refine blk_put (cs := #[.int .i64 t279, .slice none 0 0, .int .i64 0]) ?_ 1 _ rfl; (with_reducible repeat (first | refine blk_drewN ?_ _ | refine blk_drew ?_ | refine blk_alloc ?_ _)); refine blk_put (cs := #[.int .i64 0, .slice none 0 0, .int .i64 0]) ?_ 0 _ rfl; (with_reducible repeat (first | refine blk_drewN ?_ _ | refine blk_drew ?_ | refine blk_alloc ?_ _)); exact BK285.out) hb); have n13_ := Aside0.mk (below_step (by repeat (first | (with_reducible first | exact HB.out | apply below_alloc | apply pw_below_drewN | apply below_drew1 | refine below_set ?_ GE232.out | refine below_set ?_ GE244.out | refine below_set ?_ GE252.out | refine below_set ?_ GE260.out | refine below_set ?_ GE268.out | refine below_set ?_ GE269.out | refine below_set ?_ GE285.out) | exact HB.out)) hb); clear HO_233001; clear HO_245001; clear HO_253001; clear HO_261001; clear HO_269001; clear HO282; clear BK232; clear BK244; clear BK252; clear BK260; clear BK268; clear BK269; clear BK285; clear HB; have HO_233001 := n0_; have HO_245001 := n1_; have HO_253001 := n2_; have HO_261001 := n3_; have HO_269001 := n4_; have HO282 := n5_; have BK232 := n6_; have BK244 := n7_; have BK252 := n8_; have BK260 := n9_; have BK268 := n10_; have BK269 := n11_; have BK285 := n12_; have HB := n13_; clear n0_ n1_ n2_ n3_ n4_ n5_ n6_ n7_ n8_ n9_ n10_ n11_ n12_ n13_; (try clear hb); (try clear hb2); (try clear hk); (try clear hi)))
                      go_meet
                      case rel => exact ⟨_, (!t286), (by first | rfl | (simp; done) | (simp [*]; done)), H', ⟨by have := HJ11.out; have := HJ71.out; have := HJ73.out; first | omega | exact Nat.le_refl _⟩, ⟨by (with_reducible repeat (first | apply Kd.R_alloc | apply Kd.R_drewN | apply Kd.R_drew)); exact Kd.R_mono HO_233001.out (fun _ hk => ⟨hk.1.1, ⟨hk.1.2, hk.2⟩⟩)⟩, ⟨by (with_reducible repeat (first | apply Kd.R_alloc | apply Kd.R_drewN | apply Kd.R_drew)); exact Kd.R_mono HO_245001.out (fun _ hk => ⟨hk.1.1, ⟨hk.1.2, hk.2⟩⟩)⟩, ⟨by (with_reducible repeat (first | apply Kd.V_alloc | apply Kd.V_drewN | apply Kd.V_drew)); exact Kd.V_mono HO_253001.out (fun _ hk => ⟨hk.1.1.1, ⟨hk.1.1.2.1, ⟨hk.1.2, ⟨hk.1.1.2.2.1, ⟨hk.1.1.2.2.2.1, ⟨hk.1.1.2.2.2.2.1, ⟨hk.1.1.2.2.2.2.2.1, ⟨hk.1.1.2.2.2.2.2.2.1, ⟨hk.1.1.2.2.2.2.2.2.2, hk.2⟩⟩⟩⟩⟩⟩⟩⟩⟩)⟩, ⟨by (with_reducible repeat (first | apply Kd.V_alloc | apply Kd.V_drewN | apply Kd.V_drew)); exact Kd.V_mono HO_261001.out (fun _ hk => ⟨hk.1.1.1, ⟨hk.1.1.2.1, ⟨hk.1.2, ⟨hk.1.1.2.2.1, ⟨hk.1.1.2.2.2.1, ⟨hk.1.1.2.2.2.2.1, ⟨hk.1.1.2.2.2.2.2.1, ⟨hk.1.1.2.2.2.2.2.2.1, ⟨hk.1.1.2.2.2.2.2.2.2, hk.2⟩⟩⟩⟩⟩⟩⟩⟩⟩)⟩, ⟨by (with_reducible repeat (first | apply Kd.R_alloc | apply Kd.R_drewN | apply Kd.R_drew)); exact Kd.R_mono HO_269001.out (fun _ hk => ⟨hk.1.1, ⟨hk.1.2, hk.2⟩⟩)⟩, ⟨by (with_reducible repeat (first | apply Kd.R_alloc | apply Kd.R_drewN | apply Kd.R_drew)); exact Kd.R_mono HO282.out (fun _ hk => ⟨hk.1.1.2, ⟨hk.1.2, hk.2⟩⟩)⟩, ⟨by (with_reducible repeat (first | refine blk_drewN ?_ _ | refine blk_drew ?_ | refine blk_alloc ?_ _)); exact BK232.out⟩, ⟨by (with_reducible repeat (first | refine blk_drewN ?_ _ | refine blk_drew ?_ | refine blk_alloc ?_ _)); exact BK244.out⟩, ⟨by (with_reducible repeat (first | refine blk_drewN ?_ _ | refine blk_drew ?_ | refine blk_alloc ?_ _)); exact BK252.out⟩, ⟨by (with_reducible repeat (first | refine blk_drewN ?_ _ | refine blk_drew ?_ | refine blk_alloc ?_ _)); exact BK260.out⟩, ⟨by (with_reducible repeat (first | refine blk_drewN ?_ _ | refine blk_drew ?_ | refine blk_alloc ?_ _)); exact BK268.out⟩, ⟨by (with_reducible repeat (first | refine blk_drewN ?_ _ | refine blk_drew ?_ | refine blk_alloc ?_ _)); exact BK269.out⟩, ⟨by (with_reducible repeat (first | refine blk_drewN ?_ _ | refine blk_drew ?_ | refine blk_alloc ?_ _)); exact BK285.out⟩, ⟨by repeat (first | (with_reducible first | exact HB.out | apply below_alloc | apply pw_below_drewN | apply below_drew1 | refine below_set ?_ GE232.out | refine below_set ?_ GE244.out | refine below_set ?_ GE252.out | refine below_set ?_ GE260.out | refine below_set ?_ GE268.out | refine below_set ?_ GE269.out | refine below_set ?_ GE285.out) | exact HB.out)⟩⟩
                    · rw [if_neg c143] at H
                      have c143b0 : (t266 == t284) = false := beq_eq_false_iff_ne.mpr c143
                      have c143b1 : (t266 != t284) = true := bne_iff_ne.mpr c143
                      have H' := Aside0.mk H
                      clear H
                      go_wp2
                      go_meet
                      case rel => exact ⟨_, (true), (by first | rfl | (simp; done) | (simp [*]; done)), H', ⟨by have := HJ11.out; have := HJ71.out; have := HJ73.out; first | omega | exact Nat.le_refl _⟩, ⟨by (with_reducible repeat (first | apply Kd.R_alloc | apply Kd.R_drewN | apply Kd.R_drew)); exact Kd.R_mono (Kd.R_far (p := ⟨gb285, 2, none⟩) (Kd.R_far (p := ⟨gb285, 1, none⟩) (Kd.R_far (p := ⟨gb285, 0, none⟩) (Kd.R_types HO_233001.out BK285.out (by decide)) (fun _ hk => hk.2) (.int .i64 t279)) (fun _ hk => hk.2) (.slice Ao141 t280.length co141)) (fun _ hk => hk.2) (.int .i64 t283)) (fun _ hk => ⟨hk.1.1.1, ⟨hk.1.1.2, hk.1.2⟩⟩)⟩, ⟨by (with_reducible repeat (first | apply Kd.R_alloc | apply Kd.R_drewN | apply Kd.R_drew)); exact Kd.R_mono (Kd.R_far (p := ⟨gb285, 2, none⟩) (Kd.R_far (p := ⟨gb285, 1, none⟩) (Kd.R_far (p := ⟨gb285, 0, none⟩) (Kd.R_types HO_245001.out BK285.out (by decide)) (fun _ hk => hk.2) (.int .i64 t279)) (fun _ hk => hk.2) (.slice Ao141 t280.length co141)) (fun _ hk => hk.2) (.int .i64 t283)) (fun _ hk => ⟨hk.1.1.1, ⟨hk.1.1.2, hk.1.2⟩⟩)⟩, ⟨by (with_reducible repeat (first | apply Kd.V_alloc | apply Kd.V_drewN | apply Kd.V_drew)); exact Kd.V_mono (Kd.V_far (p := ⟨gb285, 2, none⟩) (Kd.V_far (p := ⟨gb285, 1, none⟩) (Kd.V_far (p := ⟨gb285, 0, none⟩) (Kd.V_mono HO_253001.out (fun k_ hk => (⟨hk, hk.2⟩ : _ ∧ k_ ≠ gb285))) (fun _ hk => hk.2) (.int .i64 t279)) (fun _ hk => hk.2) (.slice Ao141 t280.length co141)) (fun _ hk => hk.2) (.int .i64 t283)) (fun _ hk => ⟨hk.1.1.1.1, ⟨hk.1.1.1.2.1, ⟨hk.1.1.2, ⟨hk.1.1.1.2.2.1, ⟨hk.1.1.1.2.2.2.1, ⟨hk.1.1.1.2.2.2.2.1, ⟨hk.1.1.1.2.2.2.2.2.1, ⟨hk.1.1.1.2.2.2.2.2.2.1, ⟨hk.1.1.1.2.2.2.2.2.2.2, hk.1.2⟩⟩⟩⟩⟩⟩⟩⟩⟩)⟩, ⟨by (with_reducible repeat (first | apply Kd.V_alloc | apply Kd.V_drewN | apply Kd.V_drew)); exact Kd.V_mono (Kd.V_far (p := ⟨gb285, 2, none⟩) (Kd.V_far (p := ⟨gb285, 1, none⟩) (Kd.V_far (p := ⟨gb285, 0, none⟩) (Kd.V_mono HO_261001.out (fun k_ hk => (⟨hk, hk.2⟩ : _ ∧ k_ ≠ gb285))) (fun _ hk => hk.2) (.int .i64 t279)) (fun _ hk => hk.2) (.slice Ao141 t280.length co141)) (fun _ hk => hk.2) (.int .i64 t283)) (fun _ hk => ⟨hk.1.1.1.1, ⟨hk.1.1.1.2.1, ⟨hk.1.1.2, ⟨hk.1.1.1.2.2.1, ⟨hk.1.1.1.2.2.2.1, ⟨hk.1.1.1.2.2.2.2.1, ⟨hk.1.1.1.2.2.2.2.2.1, ⟨hk.1.1.1.2.2.2.2.2.2.1, ⟨hk.1.1.1.2.2.2.2.2.2.2, hk.1.2⟩⟩⟩⟩⟩⟩⟩⟩⟩)⟩, ⟨by (with_reducible repeat (first | apply Kd.R_alloc | apply Kd.R_drewN | apply Kd.R_drew)); exact Kd.R_mono (Kd.R_far (p := ⟨gb285, 2, none⟩) (Kd.R_far (p := ⟨gb285, 1, none⟩) (Kd.R_far (p := ⟨gb285, 0, none⟩) (Kd.R_types HO_269001.out BK285.out (by decide)) (fun _ hk => hk.2) (.int .i64 t279)) (fun _ hk => hk.2) (.slice Ao141 t280.length co141)) (fun _ hk => hk.2) (.int .i64 t283)) (fun _ hk => ⟨hk.1.1.1, ⟨hk.1.1.2, hk.1.2⟩⟩)⟩, ⟨by (with_reducible repeat (first | apply Kd.R_alloc | apply Kd.R_drewN | apply Kd.R_drew)); exact Kd.R_mono (Kd.R_far (p := ⟨gb285, 2, none⟩) (Kd.R_far (p := ⟨gb285, 1, none⟩) (Kd.R_far (p := ⟨gb285, 0, none⟩) (Kd.R_types HO282.out BK285.out (by decide)) (fun _ hk => hk.2) (.int .i64 t279)) (fun _ hk => hk.2) (.slice Ao141 t280.length co141)) (fun _ hk => hk.2) (.int .i64 t283)) (fun _ hk => ⟨hk.1.1.1.2, ⟨hk.1.1.2, hk.1.2⟩⟩)⟩, ⟨by (with_reducible repeat (first | refine blk_drewN ?_ _ | refine blk_drew ?_ | refine blk_alloc ?_ _)); refine blk_far ?_ NB232_285.out _; (with_reducible repeat (first | refine blk_drewN ?_ _ | refine blk_drew ?_ | refine blk_alloc ?_ _)); refine blk_far ?_ NB232_285.out _; (with_reducible repeat (first | refine blk_drewN ?_ _ | refine blk_drew ?_ | refine blk_alloc ?_ _)); refine blk_far ?_ NB232_285.out _; (with_reducible repeat (first | refine blk_drewN ?_ _ | refine blk_drew ?_ | refine blk_alloc ?_ _)); exact BK232.out⟩, ⟨by (with_reducible repeat (first | refine blk_drewN ?_ _ | refine blk_drew ?_ | refine blk_alloc ?_ _)); refine blk_far ?_ NB244_285.out _; (with_reducible repeat (first | refine blk_drewN ?_ _ | refine blk_drew ?_ | refine blk_alloc ?_ _)); refine blk_far ?_ NB244_285.out _; (with_reducible repeat (first | refine blk_drewN ?_ _ | refine blk_drew ?_ | refine blk_alloc ?_ _)); refine blk_far ?_ NB244_285.out _; (with_reducible repeat (first | refine blk_drewN ?_ _ | refine blk_drew ?_ | refine blk_alloc ?_ _)); exact BK244.out⟩, ⟨by (with_reducible repeat (first | refine blk_drewN ?_ _ | refine blk_drew ?_ | refine blk_alloc ?_ _)); refine blk_far ?_ NB252_285.out _; (with_reducible repeat (first | refine blk_drewN ?_ _ | refine blk_drew ?_ | refine blk_alloc ?_ _)); refine blk_far ?_ NB252_285.out _; (with_reducible repeat (first | refine blk_drewN ?_ _ | refine blk_drew ?_ | refine blk_alloc ?_ _)); refine blk_far ?_ NB252_285.out _; (with_reducible repeat (first | refine blk_drewN ?_ _ | refine blk_drew ?_ | refine blk_alloc ?_ _)); exact BK252.out⟩, ⟨by (with_reducible repeat (first | refine blk_drewN ?_ _ | refine blk_drew ?_ | refine blk_alloc ?_ _)); refine blk_far ?_ NB260_285.out _; (with_reducible repeat (first | refine blk_drewN ?_ _ | refine blk_drew ?_ | refine blk_alloc ?_ _)); refine blk_far ?_ NB260_285.out _; (with_reducible repeat (first | refine blk_drewN ?_ _ | refine blk_drew ?_ | refine blk_alloc ?_ _)); refine blk_far ?_ NB260_285.out _; (with_reducible repeat (first | refine blk_drewN ?_ _ | refine blk_drew ?_ | refine blk_alloc ?_ _)); exact BK260.out⟩, ⟨by (with_reducible repeat (first | refine blk_drewN ?_ _ | refine blk_drew ?_ | refine blk_alloc ?_ _)); refine blk_far ?_ NB268_285.out _; (with_reducible repeat (first | refine blk_drewN ?_ _ | refine blk_drew ?_ | refine blk_alloc ?_ _)); refine blk_far ?_ NB268_285.out _; (with_reducible repeat (first | refine blk_drewN ?_ _ | refine blk_drew ?_ | refine blk_alloc ?_ _)); refine blk_far ?_ NB268_285.out _; (with_reducible repeat (first | refine blk_drewN ?_ _ | refine blk_drew ?_ | refine blk_alloc ?_ _)); exact BK268.out⟩, ⟨by (with_reducible repeat (first | refine blk_drewN ?_ _ | refine blk_drew ?_ | refine blk_alloc ?_ _)); refine blk_far ?_ NB269_285.out _; (with_reducible repeat (first | refine blk_drewN ?_ _ | refine blk_drew ?_ | refine blk_alloc ?_ _)); refine blk_far ?_ NB269_285.out _; (with_reducible repeat (first | refine blk_drewN ?_ _ | refine blk_drew ?_ | refine blk_alloc ?_ _)); refine blk_far ?_ NB269_285.out _; (with_reducible repeat (first | refine blk_drewN ?_ _ | refine blk_drew ?_ | refine blk_alloc ?_ _)); exact BK269.out⟩, ⟨by (with_reducible repeat (first | refine blk_drewN ?_ _ | refine blk_drew ?_ | refine blk_alloc ?_ _)); refine blk_put (cs := #[.int .i64 t279, .slice Ao141 t280.length co141, .int .i64 0]) ?_ 2 _ rfl; (with_reducible repeat (first | refine blk_drewN ?_ _ | refine blk_drew ?_ | refine blk_alloc ?_ _)); refine blk_put (cs := #[.int .i64 t279, .slice none 0 0, .int .i64 0]) ?_ 1 _ rfl; (with_reducible repeat (first | refine blk_drewN ?_ _ | refine blk_drew ?_ | refine blk_alloc ?_ _)); refine blk_put (cs := #[.int .i64 0, .slice none 0 0, .int .i64 0]) ?_ 0 _ rfl; (with_reducible repeat (first | refine blk_drewN ?_ _ | refine blk_drew ?_ | refine blk_alloc ?_ _)); exact BK285.out⟩, ⟨by repeat (first | (with_reducible first | exact HB.out | apply below_alloc | apply pw_below_drewN | apply below_drew1 | refine below_set ?_ GE232.out | refine below_set ?_ GE244.out | refine below_set ?_ GE252.out | refine below_set ?_ GE260.out | refine below_set ?_ GE268.out | refine below_set ?_ GE269.out | refine below_set ?_ GE285.out) | exact HB.out)⟩⟩
                  · rw [if_neg c142] at H
                    have c142b0 : (t267 == 0) = false := beq_eq_false_iff_ne.mpr c142
                    have c142b1 : (t267 != 0) = true := bne_iff_ne.mpr c142
                    (first | rw [c142b0] | (simp only [i64_w, i32_w]; rw [c142b0]) | skip)
                    have H' := Aside0.mk H
                    clear H
                    go_wp2
                    go_meet
                    case rel => exact ⟨_, (true), (by first | rfl | (simp; done) | (simp [*]; done)), H', ⟨by have := HJ11.out; have := HJ71.out; have := HJ73.out; first | omega | exact Nat.le_refl _⟩, ⟨by (with_reducible repeat (first | apply Kd.R_alloc | apply Kd.R_drewN | apply Kd.R_drew)); exact Kd.R_mono (Kd.R_far (p := ⟨gb285, 2, none⟩) (Kd.R_far (p := ⟨gb285, 1, none⟩) (Kd.R_far (p := ⟨gb285, 0, none⟩) (Kd.R_types HO_233001.out BK285.out (by decide)) (fun _ hk => hk.2) (.int .i64 t279)) (fun _ hk => hk.2) (.slice Ao141 t280.length co141)) (fun _ hk => hk.2) (.int .i64 t283)) (fun _ hk => ⟨hk.1.1.1, ⟨hk.1.1.2, hk.1.2⟩⟩)⟩, ⟨by (with_reducible repeat (first | apply Kd.R_alloc | apply Kd.R_drewN | apply Kd.R_drew)); exact Kd.R_mono (Kd.R_far (p := ⟨gb285, 2, none⟩) (Kd.R_far (p := ⟨gb285, 1, none⟩) (Kd.R_far (p := ⟨gb285, 0, none⟩) (Kd.R_types HO_245001.out BK285.out (by decide)) (fun _ hk => hk.2) (.int .i64 t279)) (fun _ hk => hk.2) (.slice Ao141 t280.length co141)) (fun _ hk => hk.2) (.int .i64 t283)) (fun _ hk => ⟨hk.1.1.1, ⟨hk.1.1.2, hk.1.2⟩⟩)⟩, ⟨by (with_reducible repeat (first | apply Kd.V_alloc | apply Kd.V_drewN | apply Kd.V_drew)); exact Kd.V_mono (Kd.V_far (p := ⟨gb285, 2, none⟩) (Kd.V_far (p := ⟨gb285, 1, none⟩) (Kd.V_far (p := ⟨gb285, 0, none⟩) (Kd.V_mono HO_253001.out (fun k_ hk => (⟨hk, hk.2⟩ : _ ∧ k_ ≠ gb285))) (fun _ hk => hk.2) (.int .i64 t279)) (fun _ hk => hk.2) (.slice Ao141 t280.length co141)) (fun _ hk => hk.2) (.int .i64 t283)) (fun _ hk => ⟨hk.1.1.1.1, ⟨hk.1.1.1.2.1, ⟨hk.1.1.2, ⟨hk.1.1.1.2.2.1, ⟨hk.1.1.1.2.2.2.1, ⟨hk.1.1.1.2.2.2.2.1, ⟨hk.1.1.1.2.2.2.2.2.1, ⟨hk.1.1.1.2.2.2.2.2.2.1, ⟨hk.1.1.1.2.2.2.2.2.2.2, hk.1.2⟩⟩⟩⟩⟩⟩⟩⟩⟩)⟩, ⟨by (with_reducible repeat (first | apply Kd.V_alloc | apply Kd.V_drewN | apply Kd.V_drew)); exact Kd.V_mono (Kd.V_far (p := ⟨gb285, 2, none⟩) (Kd.V_far (p := ⟨gb285, 1, none⟩) (Kd.V_far (p := ⟨gb285, 0, none⟩) (Kd.V_mono HO_261001.out (fun k_ hk => (⟨hk, hk.2⟩ : _ ∧ k_ ≠ gb285))) (fun _ hk => hk.2) (.int .i64 t279)) (fun _ hk => hk.2) (.slice Ao141 t280.length co141)) (fun _ hk => hk.2) (.int .i64 t283)) (fun _ hk => ⟨hk.1.1.1.1, ⟨hk.1.1.1.2.1, ⟨hk.1.1.2, ⟨hk.1.1.1.2.2.1, ⟨hk.1.1.1.2.2.2.1, ⟨hk.1.1.1.2.2.2.2.1, ⟨hk.1.1.1.2.2.2.2.2.1, ⟨hk.1.1.1.2.2.2.2.2.2.1, ⟨hk.1.1.1.2.2.2.2.2.2.2, hk.1.2⟩⟩⟩⟩⟩⟩⟩⟩⟩)⟩, ⟨by (with_reducible repeat (first | apply Kd.R_alloc | apply Kd.R_drewN | apply Kd.R_drew)); exact Kd.R_mono (Kd.R_far (p := ⟨gb285, 2, none⟩) (Kd.R_far (p := ⟨gb285, 1, none⟩) (Kd.R_far (p := ⟨gb285, 0, none⟩) (Kd.R_types HO_269001.out BK285.out (by decide)) (fun _ hk => hk.2) (.int .i64 t279)) (fun _ hk => hk.2) (.slice Ao141 t280.length co141)) (fun _ hk => hk.2) (.int .i64 t283)) (fun _ hk => ⟨hk.1.1.1, ⟨hk.1.1.2, hk.1.2⟩⟩)⟩, ⟨by (with_reducible repeat (first | apply Kd.R_alloc | apply Kd.R_drewN | apply Kd.R_drew)); exact Kd.R_mono (Kd.R_far (p := ⟨gb285, 2, none⟩) (Kd.R_far (p := ⟨gb285, 1, none⟩) (Kd.R_far (p := ⟨gb285, 0, none⟩) (Kd.R_types HO282.out BK285.out (by decide)) (fun _ hk => hk.2) (.int .i64 t279)) (fun _ hk => hk.2) (.slice Ao141 t280.length co141)) (fun _ hk => hk.2) (.int .i64 t283)) (fun _ hk => ⟨hk.1.1.1.2, ⟨hk.1.1.2, hk.1.2⟩⟩)⟩, ⟨by (with_reducible repeat (first | refine blk_drewN ?_ _ | refine blk_drew ?_ | refine blk_alloc ?_ _)); refine blk_far ?_ NB232_285.out _; (with_reducible repeat (first | refine blk_drewN ?_ _ | refine blk_drew ?_ | refine blk_alloc ?_ _)); refine blk_far ?_ NB232_285.out _; (with_reducible repeat (first | refine blk_drewN ?_ _ | refine blk_drew ?_ | refine blk_alloc ?_ _)); refine blk_far ?_ NB232_285.out _; (with_reducible repeat (first | refine blk_drewN ?_ _ | refine blk_drew ?_ | refine blk_alloc ?_ _)); exact BK232.out⟩, ⟨by (with_reducible repeat (first | refine blk_drewN ?_ _ | refine blk_drew ?_ | refine blk_alloc ?_ _)); refine blk_far ?_ NB244_285.out _; (with_reducible repeat (first | refine blk_drewN ?_ _ | refine blk_drew ?_ | refine blk_alloc ?_ _)); refine blk_far ?_ NB244_285.out _; (with_reducible repeat (first | refine blk_drewN ?_ _ | refine blk_drew ?_ | refine blk_alloc ?_ _)); refine blk_far ?_ NB244_285.out _; (with_reducible repeat (first | refine blk_drewN ?_ _ | refine blk_drew ?_ | refine blk_alloc ?_ _)); exact BK244.out⟩, ⟨by (with_reducible repeat (first | refine blk_drewN ?_ _ | refine blk_drew ?_ | refine blk_alloc ?_ _)); refine blk_far ?_ NB252_285.out _; (with_reducible repeat (first | refine blk_drewN ?_ _ | refine blk_drew ?_ | refine blk_alloc ?_ _)); refine blk_far ?_ NB252_285.out _; (with_reducible repeat (first | refine blk_drewN ?_ _ | refine blk_drew ?_ | refine blk_alloc ?_ _)); refine blk_far ?_ NB252_285.out _; (with_reducible repeat (first | refine blk_drewN ?_ _ | refine blk_drew ?_ | refine blk_alloc ?_ _)); exact BK252.out⟩, ⟨by (with_reducible repeat (first | refine blk_drewN ?_ _ | refine blk_drew ?_ | refine blk_alloc ?_ _)); refine blk_far ?_ NB260_285.out _; (with_reducible repeat (first | refine blk_drewN ?_ _ | refine blk_drew ?_ | refine blk_alloc ?_ _)); refine blk_far ?_ NB260_285.out _; (with_reducible repeat (first | refine blk_drewN ?_ _ | refine blk_drew ?_ | refine blk_alloc ?_ _)); refine blk_far ?_ NB260_285.out _; (with_reducible repeat (first | refine blk_drewN ?_ _ | refine blk_drew ?_ | refine blk_alloc ?_ _)); exact BK260.out⟩, ⟨by (with_reducible repeat (first | refine blk_drewN ?_ _ | refine blk_drew ?_ | refine blk_alloc ?_ _)); refine blk_far ?_ NB268_285.out _; (with_reducible repeat (first | refine blk_drewN ?_ _ | refine blk_drew ?_ | refine blk_alloc ?_ _)); refine blk_far ?_ NB268_285.out _; (with_reducible repeat (first | refine blk_drewN ?_ _ | refine blk_drew ?_ | refine blk_alloc ?_ _)); refine blk_far ?_ NB268_285.out _; (with_reducible repeat (first | refine blk_drewN ?_ _ | refine blk_drew ?_ | refine blk_alloc ?_ _)); exact BK268.out⟩, ⟨by (with_reducible repeat (first | refine blk_drewN ?_ _ | refine blk_drew ?_ | refine blk_alloc ?_ _)); refine blk_far ?_ NB269_285.out _; (with_reducible repeat (first | refine blk_drewN ?_ _ | refine blk_drew ?_ | refine blk_alloc ?_ _)); refine blk_far ?_ NB269_285.out _; (with_reducible repeat (first | refine blk_drewN ?_ _ | refine blk_drew ?_ | refine blk_alloc ?_ _)); refine blk_far ?_ NB269_285.out _; (with_reducible repeat (first | refine blk_drewN ?_ _ | refine blk_drew ?_ | refine blk_alloc ?_ _)); exact BK269.out⟩, ⟨by (with_reducible repeat (first | refine blk_drewN ?_ _ | refine blk_drew ?_ | refine blk_alloc ?_ _)); refine blk_put (cs := #[.int .i64 t279, .slice Ao141 t280.length co141, .int .i64 0]) ?_ 2 _ rfl; (with_reducible repeat (first | refine blk_drewN ?_ _ | refine blk_drew ?_ | refine blk_alloc ?_ _)); refine blk_put (cs := #[.int .i64 t279, .slice none 0 0, .int .i64 0]) ?_ 1 _ rfl; (with_reducible repeat (first | refine blk_drewN ?_ _ | refine blk_drew ?_ | refine blk_alloc ?_ _)); refine blk_put (cs := #[.int .i64 0, .slice none 0 0, .int .i64 0]) ?_ 0 _ rfl; (with_reducible repeat (first | refine blk_drewN ?_ _ | refine blk_drew ?_ | refine blk_alloc ?_ _)); exact BK285.out⟩, ⟨by repeat (first | (with_reducible first | exact HB.out | apply below_alloc | apply pw_below_drewN | apply below_drew1 | refine below_set ?_ GE232.out | refine below_set ?_ GE244.out | refine below_set ?_ GE252.out | refine below_set ?_ GE260.out | refine below_set ?_ GE268.out | refine below_set ?_ GE269.out | refine below_set ?_ GE285.out) | exact HB.out)⟩⟩
                case rest =>
                 as_aux_lemma =>
                  clear HC123
                  try clear c1
                  try clear c2
                  try clear p2
                  try clear c3
                  try clear c4
                  try clear c5
                  try clear c6
                  try clear c7
                  try clear c8
                  try clear c9
                  try clear c10
                  try clear c11
                  try clear c12
                  try clear c13
                  try clear c14
                  try clear c15
                  try clear c21
                  try clear c22
                  try clear c23
                  try clear c24
                  try clear c25
                  try clear c26
                  try clear c27
                  try clear c29
                  try clear c30
                  try clear c37
                  try clear c38
                  try clear c39
                  try clear c45
                  try clear c46
                  try clear c47
                  try clear c48
                  try clear c52
                  try clear c53
                  try clear c54
                  try clear c55
                  try clear c56
                  try clear c60
                  try clear c60b0
                  try clear c60b1
                  try clear c60b2
                  try clear c71
                  try clear c73
                  try clear c73b0
                  try clear c75
                  try clear c76
                  try clear c76b0
                  try clear c76b1
                  try clear c78
                  try clear c79
                  try clear c80
                  try clear c81
                  try clear c82
                  try clear c83
                  try clear c85
                  try clear c86
                  try clear c87
                  try clear c88
                  try clear c91
                  try clear c92
                  try clear c93
                  try clear c94
                  try clear c95
                  try clear c97
                  try clear c98
                  try clear c99
                  try clear c100
                  try clear c103
                  try clear c103b0
                  try clear c103b1
                  try clear c105
                  try clear c106
                  try clear c107
                  try clear c108
                  try clear c109
                  try clear c110
                  try clear c113
                  try clear c114
                  try clear c115
                  try clear c116
                  try clear c117
                  try clear c121
                  try clear c124
                  try clear c125
                  try clear c126
                  try clear c127
                  try clear c128
                  try clear c134
                  try clear c135
                  try clear c136
                  try clear c137
                  try clear c138
                  try clear c139
                  try clear c142
                  try clear c142b0
                  try clear c142b1
                  try clear c143
                  try clear c143b0
                  try clear c143b1
                  try clear c145
                  try clear c146
                  try clear c147
                  try clear c148
                  try clear c149
                  try clear c150
                  try clear c152
                  try clear c153
                  try clear c154
                  try clear c155
                  try clear c156
                  try clear hcz101_0
                  try clear hcz101_1
                  try clear hcz101_2
                  try clear hcz111_0
                  try clear hcz111_1
                  try clear hcz111_2
                  try clear hcz118_0
                  try clear hcz118_1
                  try clear hcz118_2
                  try clear hcz129_0
                  try clear hcz129_1
                  try clear hcz129_2
                  try clear hcz131_0
                  try clear hcz131_1
                  try clear hcz131_2
                  try clear hcz140_0
                  try clear hcz140_1
                  try clear hcz140_2
                  try clear hcz151_0
                  try clear hcz151_1
                  try clear hcz151_2
                  try clear hcz157_0
                  try clear hcz157_1
                  try clear hcz157_2
                  try clear hcz23_0
                  try clear hcz23_1
                  try clear hcz23_2
                  try clear hcz26_0
                  try clear hcz26_1
                  try clear hcz26_2
                  try clear hcz31_0
                  try clear hcz31_1
                  try clear hcz31_2
                  try clear hcz34_0
                  try clear hcz34_1
                  try clear hcz34_2
                  try clear hcz40_0
                  try clear hcz40_1
                  try clear hcz40_2
                  try clear hcz42_0
                  try clear hcz42_1
                  try clear hcz42_2
                  try clear hcz49_0
                  try clear hcz49_1
                  try clear hcz49_2
                  try clear hcz57_0
                  try clear hcz57_1
                  try clear hcz57_2
                  try clear hcz84_0
                  try clear hcz84_1
                  try clear hcz84_2
                  try clear hcz89_0
                  try clear hcz89_1
                  try clear hcz89_2
                  try clear hcz96_0
                  try clear hcz96_1
                  try clear hcz96_2
                  try clear hfz101_0
                  try clear hfz101_1
                  try clear hfz101_2
                  try clear hfz111_0
                  try clear hfz111_1
                  try clear hfz111_2
                  try clear hfz118_0
                  try clear hfz118_1
                  try clear hfz118_2
                  try clear hfz129_0
                  try clear hfz129_1
                  try clear hfz129_2
                  try clear hfz131_0
                  try clear hfz131_1
                  try clear hfz131_2
                  try clear hfz140_0
                  try clear hfz140_1
                  try clear hfz140_2
                  try clear hfz151_0
                  try clear hfz151_1
                  try clear hfz151_2
                  try clear hfz157_0
                  try clear hfz157_1
                  try clear hfz157_2
                  try clear hfz23_0
                  try clear hfz23_1
                  try clear hfz23_2
                  try clear hfz26_0
                  try clear hfz26_1
                  try clear hfz26_2
                  try clear hfz31_0
                  try clear hfz31_1
                  try clear hfz31_2
                  try clear hfz34_0
                  try clear hfz34_1
                  try clear hfz34_2
                  try clear hfz40_0
                  try clear hfz40_1
                  try clear hfz40_2
                  try clear hfz42_0
                  try clear hfz42_1
                  try clear hfz42_2
                  try clear hfz49_0
                  try clear hfz49_1
                  try clear hfz49_2
                  try clear hfz57_0
                  try clear hfz57_1
                  try clear hfz57_2
                  try clear hfz84_0
                  try clear hfz84_1
                  try clear hfz84_2
                  try clear hfz89_0
                  try clear hfz89_1
                  try clear hfz89_2
                  try clear hfz96_0
                  try clear hfz96_1
                  try clear hfz96_2
                  try clear p2
                  obtain ⟨kq, x144_122, rfl, HA, HJ122, HO_233001, HO_245001, HO_253001, HO_261001, HO_269001, HO_286001, BK232, BK244, BK252, BK260, BK268, BK269, BK285, HB⟩ := hcut
                  rename_i K1 hK1 K0 hK0
                  exact footwaylaw09_QueueTells.partC k a0 a1_0 A1_1 c1_1 l1_1 a1_2 a2 r w hu35 HR1_1 HC1_1 t233 t234 t237 A4 ji5 hji5 hji5h hji5l hji5m hji5_ c6b0 c6b1 c7b0 c7b1 t238 t239 t242 t243 A8 t245 t246 t249 t250 t251 A9 t253 t254 t257 t258 t259 A10 t261 t262 t265 t266 t267 A11 gb232 w13 GW232 GE232 w14 w15 Ao17 co17 hs16 hfs16 hs18 hfs18 hs19 hfs19 w20 gb244 w21 GW244 GE244 NB232_244 NB244_232 hnb22 hnc22 Ao24 co24 w25 w27 gb252 w28 GW252 GE252 NB232_252 NB252_232 NB244_252 NB252_244 hnb29 hnc29 hnb30 hnc30 Ao32 co32 w33 w35 gb260 w36 GW260 GE260 NB232_260 NB260_232 NB244_260 NB260_244 NB252_260 NB260_252 hnb37 hnc37 hnb38 hnc38 hnb39 hnc39 Ao41 co41 w43 gb268 w44 GW268 GE268 NB232_268 NB268_232 NB244_268 NB268_244 NB252_268 NB268_252 NB260_268 NB268_260 hnb45 hnc45 hnb46 hnc46 hnb47 hnc47 hnb48 hnc48 Ao50 co50 gb269 w51 HO236 HO241 HO248 HO256 HO264 GW269 GE269 NB232_269 NB269_232 NB244_269 NB269_244 NB252_269 NB269_252 NB260_269 NB269_260 NB268_269 NB269_268 hnb52 hnc52 hnb53 hnc53 hnb54 hnc54 hnb55 hnc55 hnb56 hnc56 kj11 HJ11 x69_71 kj71 HJ71 u6 u144 kj73 HJ73 A120 t279 t280 t283 t284 A122 hnb124 hnc124 hnb125 hnc125 hnb126 hnc126 hnb127 hnc127 hnb128 hnc128 w130 w132 gb285 w133 GW285 GE285 NB232_285 NB285_232 NB244_285 NB285_244 NB252_285 NB285_252 NB260_285 NB285_260 NB268_285 NB285_268 NB269_285 NB285_269 hnb134 hnc134 hnb135 hnc135 hnb136 hnc136 hnb137 hnc137 hnb138 hnc138 hnb139 hnc139 Ao141 co141 HO282 K1 hK1 K0 hK0 wc u23 u24 u25 u26 u27 u28 u29 u30 u31 u32 u33 u34 u35 u36 u37 u38 u39 u40 u41 u42 u43 u44 u45 u46 u47 u48 u49 u50 u51 u52 u53 u54 u55 u56 u57 u58 u59 u60 u61 u62 u63 u64 u65 u66 u67 u68 u69 u70 u71 u72 u73 u74 u75 u76 u77 u78 u79 u80 u81 u82 u83 u84 u85 u86 u87 u88 u89 u90 u91 u92 u93 u94 u95 u96 u97 u98 u99 u100 u101 u102 u103 u104 u105 u106 u107 u108 u109 u110 u111 u112 u113 u114 u115 u116 u117 u118 u119 u120 u121 u122 u123 u124 u125 u126 u127 u128 u129 u130 u131 u132 u133 u134 u135 u136 u137 u138 u139 u140 u141 u142 u143 u145 u146 u147 u148 u149 u150 u151 u152 u153 u154 u155 u156 u157 u158 u159 u160 u161 u162 u163 u164 u165 u166 u167 u168 u169 u170 u171 u172 u173 u174 u175 u176 u177 u178 u179 u180 u181 u182 u183 u184 u185 u186 u187 u188 u189 u190 u191 u192 u193 u194 u195 u196 u197 u198 u199 u200 u201 u202 u203 u204 u205 u206 u207 u208 u209 u210 u211 u212 u213 u214 u215 kq x144_122 HA HJ122 HO_233001 HO_245001 HO_253001 HO_261001 HO_269001 HO_286001 BK232 BK244 BK252 BK260 BK268 BK269 BK285 HB
              ·
               as_aux_lemma =>
                replace c121 := Bool.eq_false_iff.mpr c121
                subst c121
                have H1 : (if t251 = 1 then (if t259 = 1 then (if t267 = 1 then (if t250 = true then (some false) else (if t258.toList = ([] : List UInt8) then (if t266 = 0 then ((footwayref09_Same.f kj73 t245 t246 t249 0 ([] : List ByteArray) 0).bind fun t276 => (if t276 = true then ((footwayref09_Same.f kj73 t253 t254 t257 0 ([] : List ByteArray) 0).bind fun t277 => (if t277 = true then ((footwayref09_Same.f kj73 t261 t262 t265 0 ([] : List ByteArray) 0).bind fun t278 => (some t278)) else (some false))) else (some false))) else (some false)) else (some false))) else (some false)) else (some false)) else (some false)) = some r := by rw [if_neg (show ¬ (false = true) by decide)] at H; exact H
                clear H
                have H := H1
                clear H1
                by_cases c298 : t251 = 1
                · rw [if_pos c298] at H
                  have c298b0 : (t251 == 1) = true := beq_iff_eq.mpr c298
                  have c298b1 : (t251 != 1) = false := bne_eq_false_iff_eq.mpr c298
                  clear c298
                  by_cases c299 : t259 = 1
                  · rw [if_pos c299] at H
                    have c299b0 : (t259 == 1) = true := beq_iff_eq.mpr c299
                    have c299b1 : (t259 != 1) = false := bne_eq_false_iff_eq.mpr c299
                    clear c299
                    by_cases c300 : t267 = 1
                    · rw [if_pos c300] at H
                      have c300b0 : (t267 == 1) = true := beq_iff_eq.mpr c300
                      have c300b1 : (t267 != 1) = false := bne_eq_false_iff_eq.mpr c300
                      clear c300
                      by_cases c301 : t250 = true
                      ·
                       as_aux_lemma =>
                        subst c301
                        have H1 : (some false) = some r := by rw [if_pos rfl] at H; exact H
                        clear H
                        have H := H1
                        clear H1
                        obtain rfl := Option.some.inj H
                        have hnb302 := NB232_244.out
                        have hnc302 := NB244_232.out
                        have hnb303 := NB232_252.out
                        have hnc303 := NB252_232.out
                        have hnb304 := NB232_260.out
                        have hnc304 := NB260_232.out
                        have hnb305 := NB232_268.out
                        have hnc305 := NB268_232.out
                        have hnb306 := NB232_269.out
                        have hnc306 := NB269_232.out
                        have hcz307_0 : wc.cell? ⟨gb232, 0, none⟩ = some (.int .i64 t233) := (blk_cell BK232.out 0).trans rfl
                        have hcz307_1 : wc.cell? ⟨gb232, 1, none⟩ = some (.slice Ao17 t234.length co17) := (blk_cell BK232.out 1).trans rfl
                        have hcz307_2 : wc.cell? ⟨gb232, 2, none⟩ = some (.int .i64 t237) := (blk_cell BK232.out 2).trans rfl
                        have hfz307_0 := blk_frozen BK232.out 0
                        have hfz307_1 := blk_frozen BK232.out 1
                        have hfz307_2 := blk_frozen BK232.out 2
                        go_wp2_with (first | ((with_reducible refine gate_callee (f := 26) rfl ?_); refine goesL_ (some 88) rfl rfl Try.func26 (by kernel_rfl) rfl #[.agg #[.int .i64 t233, .slice Ao17 t234.length co17, .int .i64 t237]] rfl (by (try simp only [List.map_toArray, List.map_cons, List.map_nil]); first | done | rfl | (simp only [List.length_drop, List.length_take]; rfl)) ?_; (with_reducible refine (footwayref09_Right.calls kj73 t233 _ _ t234 t237 false _ ?side1 ?side2 A120.out).mono ?_); (case side1 => repeat (first | exact (Kd.R_reads' HO_233001.out).2.2 | (with_reducible refine Kd.C_alloc ?_ _) | (with_reducible refine Kd.C_drewN ?_ _) | (with_reducible refine Kd.C_drew ?_))); (case side2 => exact (Kd.R_reads' HO_233001.out).2.1); rintro e w308 ⟨rfl, hb⟩; refine ⟨_, rfl, ?_⟩; have n0_ := Aside0.mk (Kd.R_below (by (with_reducible repeat (first | apply Kd.R_alloc | apply Kd.R_drewN | apply Kd.R_drew)); exact HO_233001.out) hb); have n1_ := Aside0.mk (Kd.R_below (by (with_reducible repeat (first | apply Kd.R_alloc | apply Kd.R_drewN | apply Kd.R_drew)); exact HO_245001.out) hb); have n2_ := Aside0.mk (Kd.V_below (by (with_reducible repeat (first | apply Kd.V_alloc | apply Kd.V_drewN | apply Kd.V_drew)); exact HO_253001.out) hb); have n3_ := Aside0.mk (Kd.V_below (by (with_reducible repeat (first | apply Kd.V_alloc | apply Kd.V_drewN | apply Kd.V_drew)); exact HO_261001.out) hb); have n4_ := Aside0.mk (Kd.R_below (by (with_reducible repeat (first | apply Kd.R_alloc | apply Kd.R_drewN | apply Kd.R_drew)); exact HO_269001.out) hb); have n5_ := Aside0.mk (blk_below (g := gb232) (o := .cells #[.int .i64 t233, .slice Ao17 t234.length co17, .int .i64 t237] 35 (0, 0)) (by (with_reducible repeat (first | refine blk_drewN ?_ _ | refine blk_drew ?_ | refine blk_alloc ?_ _)); exact BK232.out) hb); have n6_ := Aside0.mk (blk_below (g := gb244) (o := .cells #[.int .i64 t238, .slice Ao24 t239.length co24, .int .i64 t242] 35 (0, 0)) (by (with_reducible repeat (first | refine blk_drewN ?_ _ | refine blk_drew ?_ | refine blk_alloc ?_ _)); exact BK244.out) hb); have n7_ := Aside0.mk (blk_below (g := gb252) (o := .cells #[.int .i64 t245, .slice Ao32 t246.length co32, .int .i64 t249] 35 (0, 0)) (by (with_reducible repeat (first | refine blk_drewN ?_ _ | refine blk_drew ?_ | refine blk_alloc ?_ _)); exact BK252.out) hb); have n8_ := Aside0.mk (blk_below (g := gb260) (o := .cells #[.int .i64 t253, .slice Ao41 t254.length co41, .int .i64 t257] 35 (0, 0)) (by (with_reducible repeat (first | refine blk_drewN ?_ _ | refine blk_drew ?_ | refine blk_alloc ?_ _)); exact BK260.out) hb); have n9_ := Aside0.mk (blk_below (g := gb268) (o := .cells #[.int .i64 t261, .slice Ao50 t262.length co50, .int .i64 t265] 35 (0, 0)) (by (with_reducible repeat (first | refine blk_drewN ?_ _ | refine blk_drew ?_ | refine blk_alloc ?_ _)); exact BK268.out) hb); have n10_ := Aside0.mk (blk_below (g := gb269) (o := .cells #[.int .i64 0, .slice none 0 0, .int .i64 0] 35 (0, 0)) (by (with_reducible repeat (first | refine blk_drewN ?_ _ | refine blk_drew ?_ | refine blk_alloc ?_ _)); exact BK269.out) hb); have n11_ := Aside0.mk (below_step (by repeat (first | (with_reducible first | exact HB.out | apply below_alloc | apply pw_below_drewN | apply below_drew1 | refine below_set ?_ GE232.out | refine below_set ?_ GE244.out | refine below_set ?_ GE252.out | refine below_set ?_ GE260.out | refine below_set ?_ GE268.out | refine below_set ?_ GE269.out) | exact HB.out)) hb); clear HO_233001; clear HO_245001; clear HO_253001; clear HO_261001; clear HO_269001; clear BK232; clear BK244; clear BK252; clear BK260; clear BK268; clear BK269; clear HB; have HO_233001 := n0_; have HO_245001 := n1_; have HO_253001 := n2_; have HO_261001 := n3_; have HO_269001 := n4_; have BK232 := n5_; have BK244 := n6_; have BK252 := n7_; have BK260 := n8_; have BK268 := n9_; have BK269 := n10_; have HB := n11_; clear n0_ n1_ n2_ n3_ n4_ n5_ n6_ n7_ n8_ n9_ n10_ n11_; (try clear hb); (try clear hb2); (try clear hk); (try clear hi)))
                        go_ret
                        exact ⟨by first | rfl | (simp [errW_none, errW_some] <;> rfl) | (simp only [← hji5]; first | rfl | (simp [errW_none, errW_some] <;> rfl)) | (simp [*, errW_none, errW_some] <;> rfl), by repeat (first | (with_reducible first | exact HB.out | apply below_alloc | apply pw_below_drewN | apply below_drew1 | refine below_set ?_ GE232.out | refine below_set ?_ GE244.out | refine below_set ?_ GE252.out | refine below_set ?_ GE260.out | refine below_set ?_ GE268.out | refine below_set ?_ GE269.out) | exact HB.out)⟩
                      ·
                       as_aux_lemma =>
                        replace c301 := Bool.eq_false_iff.mpr c301
                        subst c301
                        have H1 : (if t258.toList = ([] : List UInt8) then (if t266 = 0 then ((footwayref09_Same.f kj73 t245 t246 t249 0 ([] : List ByteArray) 0).bind fun t276 => (if t276 = true then ((footwayref09_Same.f kj73 t253 t254 t257 0 ([] : List ByteArray) 0).bind fun t277 => (if t277 = true then ((footwayref09_Same.f kj73 t261 t262 t265 0 ([] : List ByteArray) 0).bind fun t278 => (some t278)) else (some false))) else (some false))) else (some false)) else (some false)) = some r := by rw [if_neg (show ¬ (false = true) by decide)] at H; exact H
                        clear H
                        have H := H1
                        clear H1
                        by_cases c309 : t258.toList = ([] : List UInt8)
                        · rw [if_pos c309] at H
                          have c309b0 : (t258.toList == ([] : List UInt8)) = true := beq_iff_eq.mpr c309
                          have c309b1 : (t258.toList != ([] : List UInt8)) = false := bne_eq_false_iff_eq.mpr c309
                          clear c309
                          by_cases c310 : t266 = 0
                          · rw [if_pos c310] at H
                            have c310b0 : (t266 == 0) = true := beq_iff_eq.mpr c310
                            have c310b1 : (t266 != 0) = false := bne_eq_false_iff_eq.mpr c310
                            clear c310
                            replace H := Option.bind_eq_some_iff.mp H
                            obtain ⟨t276, A3110, H⟩ := H
                            replace H : (if t276 = true then ((footwayref09_Same.f kj73 t253 t254 t257 0 ([] : List ByteArray) 0).bind fun t277 => (if t277 = true then ((footwayref09_Same.f kj73 t261 t262 t265 0 ([] : List ByteArray) 0).bind fun t278 => (some t278)) else (some false))) else (some false)) = some r := H
                            have A311 := Aside0.mk A3110
                            clear A3110
                            by_cases c312 : t276 = true
                            · subst c312
                              have H1 : ((footwayref09_Same.f kj73 t253 t254 t257 0 ([] : List ByteArray) 0).bind fun t277 => (if t277 = true then ((footwayref09_Same.f kj73 t261 t262 t265 0 ([] : List ByteArray) 0).bind fun t278 => (some t278)) else (some false))) = some r := by rw [if_pos rfl] at H; exact H
                              clear H
                              have H := H1
                              clear H1
                              replace H := Option.bind_eq_some_iff.mp H
                              obtain ⟨t277, A3130, H⟩ := H
                              replace H : (if t277 = true then ((footwayref09_Same.f kj73 t261 t262 t265 0 ([] : List ByteArray) 0).bind fun t278 => (some t278)) else (some false)) = some r := H
                              have A313 := Aside0.mk A3130
                              clear A3130
                              by_cases c314 : t277 = true
                              · subst c314
                                have H1 : ((footwayref09_Same.f kj73 t261 t262 t265 0 ([] : List ByteArray) 0).bind fun t278 => (some t278)) = some r := by rw [if_pos rfl] at H; exact H
                                clear H
                                have H := H1
                                clear H1
                                replace H := Option.bind_eq_some_iff.mp H
                                obtain ⟨t278, A3150, H⟩ := H
                                replace H : (some t278) = some r := H
                                have A315 := Aside0.mk A3150
                                clear A3150
                                obtain rfl := Option.some.inj H
                                have hnb316 := NB232_244.out
                                have hnc316 := NB244_232.out
                                have hnb317 := NB232_252.out
                                have hnc317 := NB252_232.out
                                have hnb318 := NB232_260.out
                                have hnc318 := NB260_232.out
                                have hnb319 := NB232_268.out
                                have hnc319 := NB268_232.out
                                have hnb320 := NB232_269.out
                                have hnc320 := NB269_232.out
                                have hcz321_0 : wc.cell? ⟨gb232, 0, none⟩ = some (.int .i64 t233) := (blk_cell BK232.out 0).trans rfl
                                have hcz321_1 : wc.cell? ⟨gb232, 1, none⟩ = some (.slice Ao17 t234.length co17) := (blk_cell BK232.out 1).trans rfl
                                have hcz321_2 : wc.cell? ⟨gb232, 2, none⟩ = some (.int .i64 t237) := (blk_cell BK232.out 2).trans rfl
                                have hfz321_0 := blk_frozen BK232.out 0
                                have hfz321_1 := blk_frozen BK232.out 1
                                have hfz321_2 := blk_frozen BK232.out 2
                                go_wp2_with (first | ((with_reducible refine gate_callee (f := 26) rfl ?_); refine goesL_ (some 88) rfl rfl Try.func26 (by kernel_rfl) rfl #[.agg #[.int .i64 t233, .slice Ao17 t234.length co17, .int .i64 t237]] rfl (by (try simp only [List.map_toArray, List.map_cons, List.map_nil]); first | done | rfl | (simp only [List.length_drop, List.length_take]; rfl)) ?_; (with_reducible refine (footwayref09_Right.calls kj73 t233 _ _ t234 t237 false _ ?side1 ?side2 A120.out).mono ?_); (case side1 => repeat (first | exact (Kd.R_reads' HO_233001.out).2.2 | (with_reducible refine Kd.C_alloc ?_ _) | (with_reducible refine Kd.C_drewN ?_ _) | (with_reducible refine Kd.C_drew ?_))); (case side2 => exact (Kd.R_reads' HO_233001.out).2.1); rintro e w322 ⟨rfl, hb⟩; refine ⟨_, rfl, ?_⟩; have n0_ := Aside0.mk (Kd.R_below (by (with_reducible repeat (first | apply Kd.R_alloc | apply Kd.R_drewN | apply Kd.R_drew)); exact HO_233001.out) hb); have n1_ := Aside0.mk (Kd.R_below (by (with_reducible repeat (first | apply Kd.R_alloc | apply Kd.R_drewN | apply Kd.R_drew)); exact HO_245001.out) hb); have n2_ := Aside0.mk (Kd.V_below (by (with_reducible repeat (first | apply Kd.V_alloc | apply Kd.V_drewN | apply Kd.V_drew)); exact HO_253001.out) hb); have n3_ := Aside0.mk (Kd.V_below (by (with_reducible repeat (first | apply Kd.V_alloc | apply Kd.V_drewN | apply Kd.V_drew)); exact HO_261001.out) hb); have n4_ := Aside0.mk (Kd.R_below (by (with_reducible repeat (first | apply Kd.R_alloc | apply Kd.R_drewN | apply Kd.R_drew)); exact HO_269001.out) hb); have n5_ := Aside0.mk (blk_below (g := gb232) (o := .cells #[.int .i64 t233, .slice Ao17 t234.length co17, .int .i64 t237] 35 (0, 0)) (by (with_reducible repeat (first | refine blk_drewN ?_ _ | refine blk_drew ?_ | refine blk_alloc ?_ _)); exact BK232.out) hb); have n6_ := Aside0.mk (blk_below (g := gb244) (o := .cells #[.int .i64 t238, .slice Ao24 t239.length co24, .int .i64 t242] 35 (0, 0)) (by (with_reducible repeat (first | refine blk_drewN ?_ _ | refine blk_drew ?_ | refine blk_alloc ?_ _)); exact BK244.out) hb); have n7_ := Aside0.mk (blk_below (g := gb252) (o := .cells #[.int .i64 t245, .slice Ao32 t246.length co32, .int .i64 t249] 35 (0, 0)) (by (with_reducible repeat (first | refine blk_drewN ?_ _ | refine blk_drew ?_ | refine blk_alloc ?_ _)); exact BK252.out) hb); have n8_ := Aside0.mk (blk_below (g := gb260) (o := .cells #[.int .i64 t253, .slice Ao41 t254.length co41, .int .i64 t257] 35 (0, 0)) (by (with_reducible repeat (first | refine blk_drewN ?_ _ | refine blk_drew ?_ | refine blk_alloc ?_ _)); exact BK260.out) hb); have n9_ := Aside0.mk (blk_below (g := gb268) (o := .cells #[.int .i64 t261, .slice Ao50 t262.length co50, .int .i64 t265] 35 (0, 0)) (by (with_reducible repeat (first | refine blk_drewN ?_ _ | refine blk_drew ?_ | refine blk_alloc ?_ _)); exact BK268.out) hb); have n10_ := Aside0.mk (blk_below (g := gb269) (o := .cells #[.int .i64 0, .slice none 0 0, .int .i64 0] 35 (0, 0)) (by (with_reducible repeat (first | refine blk_drewN ?_ _ | refine blk_drew ?_ | refine blk_alloc ?_ _)); exact BK269.out) hb); have n11_ := Aside0.mk (below_step (by repeat (first | (with_reducible first | exact HB.out | apply below_alloc | apply pw_below_drewN | apply below_drew1 | refine below_set ?_ GE232.out | refine below_set ?_ GE244.out | refine below_set ?_ GE252.out | refine below_set ?_ GE260.out | refine below_set ?_ GE268.out | refine below_set ?_ GE269.out) | exact HB.out)) hb); clear HO_233001; clear HO_245001; clear HO_253001; clear HO_261001; clear HO_269001; clear BK232; clear BK244; clear BK252; clear BK260; clear BK268; clear BK269; clear HB; have HO_233001 := n0_; have HO_245001 := n1_; have HO_253001 := n2_; have HO_261001 := n3_; have HO_269001 := n4_; have BK232 := n5_; have BK244 := n6_; have BK252 := n7_; have BK260 := n8_; have BK268 := n9_; have BK269 := n10_; have HB := n11_; clear n0_ n1_ n2_ n3_ n4_ n5_ n6_ n7_ n8_ n9_ n10_ n11_; (try clear hb); (try clear hb2); (try clear hk); (try clear hi); have hnb323 := NB252_244.out; have hnc323 := NB244_252.out; have hnb324 := NB252_260.out; have hnc324 := NB260_252.out; have hnb325 := NB252_268.out; have hnc325 := NB268_252.out; have hnb326 := NB252_269.out; have hnc326 := NB269_252.out; have hcz327_0 : w322.cell? ⟨gb252, 0, none⟩ = some (.int .i64 t245) := (blk_cell BK252.out 0).trans rfl; have hcz327_1 : w322.cell? ⟨gb252, 1, none⟩ = some (.slice Ao32 t246.length co32) := (blk_cell BK252.out 1).trans rfl; have hcz327_2 : w322.cell? ⟨gb252, 2, none⟩ = some (.int .i64 t249) := (blk_cell BK252.out 2).trans rfl; have hfz327_0 := blk_frozen BK252.out 0; have hfz327_1 := blk_frozen BK252.out 1; have hfz327_2 := blk_frozen BK252.out 2; have hnb328 := NB269_244.out; have hnc328 := NB244_269.out; have hnb329 := NB269_260.out; have hnc329 := NB260_269.out; have hnb330 := NB269_268.out; have hnc330 := NB268_269.out; have hcz331_0 : w322.cell? ⟨gb269, 0, none⟩ = some (.int .i64 0) := (blk_cell BK269.out 0).trans rfl; have hcz331_1 : w322.cell? ⟨gb269, 1, none⟩ = some (.slice none 0 0) := (blk_cell BK269.out 1).trans rfl; have hcz331_2 : w322.cell? ⟨gb269, 2, none⟩ = some (.int .i64 0) := (blk_cell BK269.out 2).trans rfl; have hfz331_0 := blk_frozen BK269.out 0; have hfz331_1 := blk_frozen BK269.out 1; have hfz331_2 := blk_frozen BK269.out 2) | (go_at_call_has 28 t245; (refine (footwayref09_Same.calls kj73 t245 _ _ t246 t249 0 _ _ ([] : List ByteArray) 0 true _ ?side1 ?side2 ?side3 ?side4 A311.out).mono ?_); (case side1 => repeat (first | exact (Kd.V_reads' HO_253001.out).2.2 | (with_reducible refine Kd.C_alloc ?_ _) | (with_reducible refine Kd.C_drewN ?_ _) | (with_reducible refine Kd.C_drew ?_))); (case side2 => exact (Kd.V_reads' HO_253001.out).2.1); (case side3 => exact Kd.C_nil _ _); (case side4 => exact Nat.le_refl _); rintro e w332 ⟨rfl, hb⟩; have n0_ := Aside0.mk (Kd.R_below (by (with_reducible repeat (first | apply Kd.R_alloc | apply Kd.R_drewN | apply Kd.R_drew)); exact HO_233001.out) hb); have n1_ := Aside0.mk (Kd.R_below (by (with_reducible repeat (first | apply Kd.R_alloc | apply Kd.R_drewN | apply Kd.R_drew)); exact HO_245001.out) hb); have n2_ := Aside0.mk (Kd.V_below (by (with_reducible repeat (first | apply Kd.V_alloc | apply Kd.V_drewN | apply Kd.V_drew)); exact HO_253001.out) hb); have n3_ := Aside0.mk (Kd.V_below (by (with_reducible repeat (first | apply Kd.V_alloc | apply Kd.V_drewN | apply Kd.V_drew)); exact HO_261001.out) hb); have n4_ := Aside0.mk (Kd.R_below (by (with_reducible repeat (first | apply Kd.R_alloc | apply Kd.R_drewN | apply Kd.R_drew)); exact HO_269001.out) hb); have n5_ := Aside0.mk (blk_below (g := gb232) (o := .cells #[.int .i64 t233, .slice Ao17 t234.length co17, .int .i64 t237] 35 (0, 0)) (by (with_reducible repeat (first | refine blk_drewN ?_ _ | refine blk_drew ?_ | refine blk_alloc ?_ _)); exact BK232.out) hb); have n6_ := Aside0.mk (blk_below (g := gb244) (o := .cells #[.int .i64 t238, .slice Ao24 t239.length co24, .int .i64 t242] 35 (0, 0)) (by (with_reducible repeat (first | refine blk_drewN ?_ _ | refine blk_drew ?_ | refine blk_alloc ?_ _)); exact BK244.out) hb); have n7_ := Aside0.mk (blk_below (g := gb252) (o := .cells #[.int .i64 t245, .slice Ao32 t246.length co32, .int .i64 t249] 35 (0, 0)) (by (with_reducible repeat (first | refine blk_drewN ?_ _ | refine blk_drew ?_ | refine blk_alloc ?_ _)); exact BK252.out) hb); have n8_ := Aside0.mk (blk_below (g := gb260) (o := .cells #[.int .i64 t253, .slice Ao41 t254.length co41, .int .i64 t257] 35 (0, 0)) (by (with_reducible repeat (first | refine blk_drewN ?_ _ | refine blk_drew ?_ | refine blk_alloc ?_ _)); exact BK260.out) hb); have n9_ := Aside0.mk (blk_below (g := gb268) (o := .cells #[.int .i64 t261, .slice Ao50 t262.length co50, .int .i64 t265] 35 (0, 0)) (by (with_reducible repeat (first | refine blk_drewN ?_ _ | refine blk_drew ?_ | refine blk_alloc ?_ _)); exact BK268.out) hb); have n10_ := Aside0.mk (blk_below (g := gb269) (o := .cells #[.int .i64 0, .slice none 0 0, .int .i64 0] 35 (0, 0)) (by (with_reducible repeat (first | refine blk_drewN ?_ _ | refine blk_drew ?_ | refine blk_alloc ?_ _)); exact BK269.out) hb); have n11_ := Aside0.mk (below_step (by repeat (first | (with_reducible first | exact HB.out | apply below_alloc | apply pw_below_drewN | apply below_drew1 | refine below_set ?_ GE232.out | refine below_set ?_ GE244.out | refine below_set ?_ GE252.out | refine below_set ?_ GE260.out | refine below_set ?_ GE268.out | refine below_set ?_ GE269.out) | exact HB.out)) hb); clear HO_233001; clear HO_245001; clear HO_253001; clear HO_261001; clear HO_269001; clear BK232; clear BK244; clear BK252; clear BK260; clear BK268; clear BK269; clear HB; have HO_233001 := n0_; have HO_245001 := n1_; have HO_253001 := n2_; have HO_261001 := n3_; have HO_269001 := n4_; have BK232 := n5_; have BK244 := n6_; have BK252 := n7_; have BK260 := n8_; have BK268 := n9_; have BK269 := n10_; have HB := n11_; clear n0_ n1_ n2_ n3_ n4_ n5_ n6_ n7_ n8_ n9_ n10_ n11_; (try clear hb); (try clear hb2); (try clear hk); (try clear hi); have hnb333 := NB260_244.out; have hnc333 := NB244_260.out; have hnb334 := NB260_268.out; have hnc334 := NB268_260.out; have hcz335_0 : w332.cell? ⟨gb260, 0, none⟩ = some (.int .i64 t253) := (blk_cell BK260.out 0).trans rfl; have hcz335_1 : w332.cell? ⟨gb260, 1, none⟩ = some (.slice Ao41 t254.length co41) := (blk_cell BK260.out 1).trans rfl; have hcz335_2 : w332.cell? ⟨gb260, 2, none⟩ = some (.int .i64 t257) := (blk_cell BK260.out 2).trans rfl; have hfz335_0 := blk_frozen BK260.out 0; have hfz335_1 := blk_frozen BK260.out 1; have hfz335_2 := blk_frozen BK260.out 2; have hcz336_0 : w332.cell? ⟨gb269, 0, none⟩ = some (.int .i64 0) := (blk_cell BK269.out 0).trans rfl; have hcz336_1 : w332.cell? ⟨gb269, 1, none⟩ = some (.slice none 0 0) := (blk_cell BK269.out 1).trans rfl; have hcz336_2 : w332.cell? ⟨gb269, 2, none⟩ = some (.int .i64 0) := (blk_cell BK269.out 2).trans rfl; have hfz336_0 := blk_frozen BK269.out 0; have hfz336_1 := blk_frozen BK269.out 1; have hfz336_2 := blk_frozen BK269.out 2) | (go_at_call_has 28 t253; (refine (footwayref09_Same.calls kj73 t253 _ _ t254 t257 0 _ _ ([] : List ByteArray) 0 true _ ?side1 ?side2 ?side3 ?side4 A313.out).mono ?_); (case side1 => repeat (first | exact (Kd.V_reads' HO_261001.out).2.2 | (with_reducible refine Kd.C_alloc ?_ _) | (with_reducible refine Kd.C_drewN ?_ _) | (with_reducible refine Kd.C_drew ?_))); (case side2 => exact (Kd.V_reads' HO_261001.out).2.1); (case side3 => exact Kd.C_nil _ _); (case side4 => exact Nat.le_refl _); rintro e w337 ⟨rfl, hb⟩; have n0_ := Aside0.mk (Kd.R_below (by (with_reducible repeat (first | apply Kd.R_alloc | apply Kd.R_drewN | apply Kd.R_drew)); exact HO_233001.out) hb); have n1_ := Aside0.mk (Kd.R_below (by (with_reducible repeat (first | apply Kd.R_alloc | apply Kd.R_drewN | apply Kd.R_drew)); exact HO_245001.out) hb); have n2_ := Aside0.mk (Kd.V_below (by (with_reducible repeat (first | apply Kd.V_alloc | apply Kd.V_drewN | apply Kd.V_drew)); exact HO_253001.out) hb); have n3_ := Aside0.mk (Kd.V_below (by (with_reducible repeat (first | apply Kd.V_alloc | apply Kd.V_drewN | apply Kd.V_drew)); exact HO_261001.out) hb); have n4_ := Aside0.mk (Kd.R_below (by (with_reducible repeat (first | apply Kd.R_alloc | apply Kd.R_drewN | apply Kd.R_drew)); exact HO_269001.out) hb); have n5_ := Aside0.mk (blk_below (g := gb232) (o := .cells #[.int .i64 t233, .slice Ao17 t234.length co17, .int .i64 t237] 35 (0, 0)) (by (with_reducible repeat (first | refine blk_drewN ?_ _ | refine blk_drew ?_ | refine blk_alloc ?_ _)); exact BK232.out) hb); have n6_ := Aside0.mk (blk_below (g := gb244) (o := .cells #[.int .i64 t238, .slice Ao24 t239.length co24, .int .i64 t242] 35 (0, 0)) (by (with_reducible repeat (first | refine blk_drewN ?_ _ | refine blk_drew ?_ | refine blk_alloc ?_ _)); exact BK244.out) hb); have n7_ := Aside0.mk (blk_below (g := gb252) (o := .cells #[.int .i64 t245, .slice Ao32 t246.length co32, .int .i64 t249] 35 (0, 0)) (by (with_reducible repeat (first | refine blk_drewN ?_ _ | refine blk_drew ?_ | refine blk_alloc ?_ _)); exact BK252.out) hb); have n8_ := Aside0.mk (blk_below (g := gb260) (o := .cells #[.int .i64 t253, .slice Ao41 t254.length co41, .int .i64 t257] 35 (0, 0)) (by (with_reducible repeat (first | refine blk_drewN ?_ _ | refine blk_drew ?_ | refine blk_alloc ?_ _)); exact BK260.out) hb); have n9_ := Aside0.mk (blk_below (g := gb268) (o := .cells #[.int .i64 t261, .slice Ao50 t262.length co50, .int .i64 t265] 35 (0, 0)) (by (with_reducible repeat (first | refine blk_drewN ?_ _ | refine blk_drew ?_ | refine blk_alloc ?_ _)); exact BK268.out) hb); have n10_ := Aside0.mk (blk_below (g := gb269) (o := .cells #[.int .i64 0, .slice none 0 0, .int .i64 0] 35 (0, 0)) (by (with_reducible repeat (first | refine blk_drewN ?_ _ | refine blk_drew ?_ | refine blk_alloc ?_ _)); exact BK269.out) hb); have n11_ := Aside0.mk (below_step (by repeat (first | (with_reducible first | exact HB.out | apply below_alloc | apply pw_below_drewN | apply below_drew1 | refine below_set ?_ GE232.out | refine below_set ?_ GE244.out | refine below_set ?_ GE252.out | refine below_set ?_ GE260.out | refine below_set ?_ GE268.out | refine below_set ?_ GE269.out) | exact HB.out)) hb); clear HO_233001; clear HO_245001; clear HO_253001; clear HO_261001; clear HO_269001; clear BK232; clear BK244; clear BK252; clear BK260; clear BK268; clear BK269; clear HB; have HO_233001 := n0_; have HO_245001 := n1_; have HO_253001 := n2_; have HO_261001 := n3_; have HO_269001 := n4_; have BK232 := n5_; have BK244 := n6_; have BK252 := n7_; have BK260 := n8_; have BK268 := n9_; have BK269 := n10_; have HB := n11_; clear n0_ n1_ n2_ n3_ n4_ n5_ n6_ n7_ n8_ n9_ n10_ n11_; (try clear hb); (try clear hb2); (try clear hk); (try clear hi); have hnb338 := NB268_244.out; have hnc338 := NB244_268.out; have hcz339_0 : w337.cell? ⟨gb268, 0, none⟩ = some (.int .i64 t261) := (blk_cell BK268.out 0).trans rfl; have hcz339_1 : w337.cell? ⟨gb268, 1, none⟩ = some (.slice Ao50 t262.length co50) := (blk_cell BK268.out 1).trans rfl; have hcz339_2 : w337.cell? ⟨gb268, 2, none⟩ = some (.int .i64 t265) := (blk_cell BK268.out 2).trans rfl; have hfz339_0 := blk_frozen BK268.out 0; have hfz339_1 := blk_frozen BK268.out 1; have hfz339_2 := blk_frozen BK268.out 2; have hcz340_0 : w337.cell? ⟨gb269, 0, none⟩ = some (.int .i64 0) := (blk_cell BK269.out 0).trans rfl; have hcz340_1 : w337.cell? ⟨gb269, 1, none⟩ = some (.slice none 0 0) := (blk_cell BK269.out 1).trans rfl; have hcz340_2 : w337.cell? ⟨gb269, 2, none⟩ = some (.int .i64 0) := (blk_cell BK269.out 2).trans rfl; have hfz340_0 := blk_frozen BK269.out 0; have hfz340_1 := blk_frozen BK269.out 1; have hfz340_2 := blk_frozen BK269.out 2) | (go_at_call_has 28 t261; (refine (footwayref09_Same.calls kj73 t261 _ _ t262 t265 0 _ _ ([] : List ByteArray) 0 t278 _ ?side1 ?side2 ?side3 ?side4 A315.out).mono ?_); (case side1 => repeat (first | exact (Kd.R_reads' HO_269001.out).2.2 | (with_reducible refine Kd.C_alloc ?_ _) | (with_reducible refine Kd.C_drewN ?_ _) | (with_reducible refine Kd.C_drew ?_))); (case side2 => exact (Kd.R_reads' HO_269001.out).2.1); (case side3 => exact Kd.C_nil _ _); (case side4 => exact Nat.le_refl _); rintro e w341 ⟨rfl, hb⟩; have n0_ := Aside0.mk (Kd.R_below (by (with_reducible repeat (first | apply Kd.R_alloc | apply Kd.R_drewN | apply Kd.R_drew)); exact HO_233001.out) hb); have n1_ := Aside0.mk (Kd.R_below (by (with_reducible repeat (first | apply Kd.R_alloc | apply Kd.R_drewN | apply Kd.R_drew)); exact HO_245001.out) hb); have n2_ := Aside0.mk (Kd.V_below (by (with_reducible repeat (first | apply Kd.V_alloc | apply Kd.V_drewN | apply Kd.V_drew)); exact HO_253001.out) hb); have n3_ := Aside0.mk (Kd.V_below (by (with_reducible repeat (first | apply Kd.V_alloc | apply Kd.V_drewN | apply Kd.V_drew)); exact HO_261001.out) hb); have n4_ := Aside0.mk (Kd.R_below (by (with_reducible repeat (first | apply Kd.R_alloc | apply Kd.R_drewN | apply Kd.R_drew)); exact HO_269001.out) hb); have n5_ := Aside0.mk (blk_below (g := gb232) (o := .cells #[.int .i64 t233, .slice Ao17 t234.length co17, .int .i64 t237] 35 (0, 0)) (by (with_reducible repeat (first | refine blk_drewN ?_ _ | refine blk_drew ?_ | refine blk_alloc ?_ _)); exact BK232.out) hb); have n6_ := Aside0.mk (blk_below (g := gb244) (o := .cells #[.int .i64 t238, .slice Ao24 t239.length co24, .int .i64 t242] 35 (0, 0)) (by (with_reducible repeat (first | refine blk_drewN ?_ _ | refine blk_drew ?_ | refine blk_alloc ?_ _)); exact BK244.out) hb); have n7_ := Aside0.mk (blk_below (g := gb252) (o := .cells #[.int .i64 t245, .slice Ao32 t246.length co32, .int .i64 t249] 35 (0, 0)) (by (with_reducible repeat (first | refine blk_drewN ?_ _ | refine blk_drew ?_ | refine blk_alloc ?_ _)); exact BK252.out) hb); have n8_ := Aside0.mk (blk_below (g := gb260) (o := .cells #[.int .i64 t253, .slice Ao41 t254.length co41, .int .i64 t257] 35 (0, 0)) (by (with_reducible repeat (first | refine blk_drewN ?_ _ | refine blk_drew ?_ | refine blk_alloc ?_ _)); exact BK260.out) hb); have n9_ := Aside0.mk (blk_below (g := gb268) (o := .cells #[.int .i64 t261, .slice Ao50 t262.length co50, .int .i64 t265] 35 (0, 0)) (by (with_reducible repeat (first | refine blk_drewN ?_ _ | refine blk_drew ?_ | refine blk_alloc ?_ _)); exact BK268.out) hb); have n10_ := Aside0.mk (blk_below (g := gb269) (o := .cells #[.int .i64 0, .slice none 0 0, .int .i64 0] 35 (0, 0)) (by (with_reducible repeat (first | refine blk_drewN ?_ _ | refine blk_drew ?_ | refine blk_alloc ?_ _)); exact BK269.out) hb); have n11_ := Aside0.mk (below_step (by repeat (first | (with_reducible first | exact HB.out | apply below_alloc | apply pw_below_drewN | apply below_drew1 | refine below_set ?_ GE232.out | refine below_set ?_ GE244.out | refine below_set ?_ GE252.out | refine below_set ?_ GE260.out | refine below_set ?_ GE268.out | refine below_set ?_ GE269.out) | exact HB.out)) hb); clear HO_233001; clear HO_245001; clear HO_253001; clear HO_261001; clear HO_269001; clear BK232; clear BK244; clear BK252; clear BK260; clear BK268; clear BK269; clear HB; have HO_233001 := n0_; have HO_245001 := n1_; have HO_253001 := n2_; have HO_261001 := n3_; have HO_269001 := n4_; have BK232 := n5_; have BK244 := n6_; have BK252 := n7_; have BK260 := n8_; have BK268 := n9_; have BK269 := n10_; have HB := n11_; clear n0_ n1_ n2_ n3_ n4_ n5_ n6_ n7_ n8_ n9_ n10_ n11_; (try clear hb); (try clear hb2); (try clear hk); (try clear hi)))
                                go_ret
                                exact ⟨by first | rfl | (simp [errW_none, errW_some] <;> rfl) | (simp only [← hji5]; first | rfl | (simp [errW_none, errW_some] <;> rfl)) | (simp [*, errW_none, errW_some] <;> rfl), by repeat (first | (with_reducible first | exact HB.out | apply below_alloc | apply pw_below_drewN | apply below_drew1 | refine below_set ?_ GE232.out | refine below_set ?_ GE244.out | refine below_set ?_ GE252.out | refine below_set ?_ GE260.out | refine below_set ?_ GE268.out | refine below_set ?_ GE269.out) | exact HB.out)⟩
                              · replace c314 := Bool.eq_false_iff.mpr c314
                                subst c314
                                have H1 : (some false) = some r := by rw [if_neg (show ¬ (false = true) by decide)] at H; exact H
                                clear H
                                have H := H1
                                clear H1
                                obtain rfl := Option.some.inj H
                                have hnb342 := NB232_244.out
                                have hnc342 := NB244_232.out
                                have hnb343 := NB232_252.out
                                have hnc343 := NB252_232.out
                                have hnb344 := NB232_260.out
                                have hnc344 := NB260_232.out
                                have hnb345 := NB232_268.out
                                have hnc345 := NB268_232.out
                                have hnb346 := NB232_269.out
                                have hnc346 := NB269_232.out
                                have hcz347_0 : wc.cell? ⟨gb232, 0, none⟩ = some (.int .i64 t233) := (blk_cell BK232.out 0).trans rfl
                                have hcz347_1 : wc.cell? ⟨gb232, 1, none⟩ = some (.slice Ao17 t234.length co17) := (blk_cell BK232.out 1).trans rfl
                                have hcz347_2 : wc.cell? ⟨gb232, 2, none⟩ = some (.int .i64 t237) := (blk_cell BK232.out 2).trans rfl
                                have hfz347_0 := blk_frozen BK232.out 0
                                have hfz347_1 := blk_frozen BK232.out 1
                                have hfz347_2 := blk_frozen BK232.out 2
                                go_wp2_with (first | ((with_reducible refine gate_callee (f := 26) rfl ?_); refine goesL_ (some 88) rfl rfl Try.func26 (by kernel_rfl) rfl #[.agg #[.int .i64 t233, .slice Ao17 t234.length co17, .int .i64 t237]] rfl (by (try simp only [List.map_toArray, List.map_cons, List.map_nil]); first | done | rfl | (simp only [List.length_drop, List.length_take]; rfl)) ?_; (with_reducible refine (footwayref09_Right.calls kj73 t233 _ _ t234 t237 false _ ?side1 ?side2 A120.out).mono ?_); (case side1 => repeat (first | exact (Kd.R_reads' HO_233001.out).2.2 | (with_reducible refine Kd.C_alloc ?_ _) | (with_reducible refine Kd.C_drewN ?_ _) | (with_reducible refine Kd.C_drew ?_))); (case side2 => exact (Kd.R_reads' HO_233001.out).2.1); rintro e w348 ⟨rfl, hb⟩; refine ⟨_, rfl, ?_⟩; have n0_ := Aside0.mk (Kd.R_below (by (with_reducible repeat (first | apply Kd.R_alloc | apply Kd.R_drewN | apply Kd.R_drew)); exact HO_233001.out) hb); have n1_ := Aside0.mk (Kd.R_below (by (with_reducible repeat (first | apply Kd.R_alloc | apply Kd.R_drewN | apply Kd.R_drew)); exact HO_245001.out) hb); have n2_ := Aside0.mk (Kd.V_below (by (with_reducible repeat (first | apply Kd.V_alloc | apply Kd.V_drewN | apply Kd.V_drew)); exact HO_253001.out) hb); have n3_ := Aside0.mk (Kd.V_below (by (with_reducible repeat (first | apply Kd.V_alloc | apply Kd.V_drewN | apply Kd.V_drew)); exact HO_261001.out) hb); have n4_ := Aside0.mk (Kd.R_below (by (with_reducible repeat (first | apply Kd.R_alloc | apply Kd.R_drewN | apply Kd.R_drew)); exact HO_269001.out) hb); have n5_ := Aside0.mk (blk_below (g := gb232) (o := .cells #[.int .i64 t233, .slice Ao17 t234.length co17, .int .i64 t237] 35 (0, 0)) (by (with_reducible repeat (first | refine blk_drewN ?_ _ | refine blk_drew ?_ | refine blk_alloc ?_ _)); exact BK232.out) hb); have n6_ := Aside0.mk (blk_below (g := gb244) (o := .cells #[.int .i64 t238, .slice Ao24 t239.length co24, .int .i64 t242] 35 (0, 0)) (by (with_reducible repeat (first | refine blk_drewN ?_ _ | refine blk_drew ?_ | refine blk_alloc ?_ _)); exact BK244.out) hb); have n7_ := Aside0.mk (blk_below (g := gb252) (o := .cells #[.int .i64 t245, .slice Ao32 t246.length co32, .int .i64 t249] 35 (0, 0)) (by (with_reducible repeat (first | refine blk_drewN ?_ _ | refine blk_drew ?_ | refine blk_alloc ?_ _)); exact BK252.out) hb); have n8_ := Aside0.mk (blk_below (g := gb260) (o := .cells #[.int .i64 t253, .slice Ao41 t254.length co41, .int .i64 t257] 35 (0, 0)) (by (with_reducible repeat (first | refine blk_drewN ?_ _ | refine blk_drew ?_ | refine blk_alloc ?_ _)); exact BK260.out) hb); have n9_ := Aside0.mk (blk_below (g := gb268) (o := .cells #[.int .i64 t261, .slice Ao50 t262.length co50, .int .i64 t265] 35 (0, 0)) (by (with_reducible repeat (first | refine blk_drewN ?_ _ | refine blk_drew ?_ | refine blk_alloc ?_ _)); exact BK268.out) hb); have n10_ := Aside0.mk (blk_below (g := gb269) (o := .cells #[.int .i64 0, .slice none 0 0, .int .i64 0] 35 (0, 0)) (by (with_reducible repeat (first | refine blk_drewN ?_ _ | refine blk_drew ?_ | refine blk_alloc ?_ _)); exact BK269.out) hb); have n11_ := Aside0.mk (below_step (by repeat (first | (with_reducible first | exact HB.out | apply below_alloc | apply pw_below_drewN | apply below_drew1 | refine below_set ?_ GE232.out | refine below_set ?_ GE244.out | refine below_set ?_ GE252.out | refine below_set ?_ GE260.out | refine below_set ?_ GE268.out | refine below_set ?_ GE269.out) | exact HB.out)) hb); clear HO_233001; clear HO_245001; clear HO_253001; clear HO_261001; clear HO_269001; clear BK232; clear BK244; clear BK252; clear BK260; clear BK268; clear BK269; clear HB; have HO_233001 := n0_; have HO_245001 := n1_; have HO_253001 := n2_; have HO_261001 := n3_; have HO_269001 := n4_; have BK232 := n5_; have BK244 := n6_; have BK252 := n7_; have BK260 := n8_; have BK268 := n9_; have BK269 := n10_; have HB := n11_; clear n0_ n1_ n2_ n3_ n4_ n5_ n6_ n7_ n8_ n9_ n10_ n11_; (try clear hb); (try clear hb2); (try clear hk); (try clear hi); have hnb349 := NB252_244.out; have hnc349 := NB244_252.out; have hnb350 := NB252_260.out; have hnc350 := NB260_252.out; have hnb351 := NB252_268.out; have hnc351 := NB268_252.out; have hnb352 := NB252_269.out; have hnc352 := NB269_252.out; have hcz353_0 : w348.cell? ⟨gb252, 0, none⟩ = some (.int .i64 t245) := (blk_cell BK252.out 0).trans rfl; have hcz353_1 : w348.cell? ⟨gb252, 1, none⟩ = some (.slice Ao32 t246.length co32) := (blk_cell BK252.out 1).trans rfl; have hcz353_2 : w348.cell? ⟨gb252, 2, none⟩ = some (.int .i64 t249) := (blk_cell BK252.out 2).trans rfl; have hfz353_0 := blk_frozen BK252.out 0; have hfz353_1 := blk_frozen BK252.out 1; have hfz353_2 := blk_frozen BK252.out 2; have hnb354 := NB269_244.out; have hnc354 := NB244_269.out; have hnb355 := NB269_260.out; have hnc355 := NB260_269.out; have hnb356 := NB269_268.out; have hnc356 := NB268_269.out; have hcz357_0 : w348.cell? ⟨gb269, 0, none⟩ = some (.int .i64 0) := (blk_cell BK269.out 0).trans rfl; have hcz357_1 : w348.cell? ⟨gb269, 1, none⟩ = some (.slice none 0 0) := (blk_cell BK269.out 1).trans rfl; have hcz357_2 : w348.cell? ⟨gb269, 2, none⟩ = some (.int .i64 0) := (blk_cell BK269.out 2).trans rfl; have hfz357_0 := blk_frozen BK269.out 0; have hfz357_1 := blk_frozen BK269.out 1; have hfz357_2 := blk_frozen BK269.out 2) | (go_at_call_has 28 t245; (refine (footwayref09_Same.calls kj73 t245 _ _ t246 t249 0 _ _ ([] : List ByteArray) 0 true _ ?side1 ?side2 ?side3 ?side4 A311.out).mono ?_); (case side1 => repeat (first | exact (Kd.V_reads' HO_253001.out).2.2 | (with_reducible refine Kd.C_alloc ?_ _) | (with_reducible refine Kd.C_drewN ?_ _) | (with_reducible refine Kd.C_drew ?_))); (case side2 => exact (Kd.V_reads' HO_253001.out).2.1); (case side3 => exact Kd.C_nil _ _); (case side4 => exact Nat.le_refl _); rintro e w358 ⟨rfl, hb⟩; have n0_ := Aside0.mk (Kd.R_below (by (with_reducible repeat (first | apply Kd.R_alloc | apply Kd.R_drewN | apply Kd.R_drew)); exact HO_233001.out) hb); have n1_ := Aside0.mk (Kd.R_below (by (with_reducible repeat (first | apply Kd.R_alloc | apply Kd.R_drewN | apply Kd.R_drew)); exact HO_245001.out) hb); have n2_ := Aside0.mk (Kd.V_below (by (with_reducible repeat (first | apply Kd.V_alloc | apply Kd.V_drewN | apply Kd.V_drew)); exact HO_253001.out) hb); have n3_ := Aside0.mk (Kd.V_below (by (with_reducible repeat (first | apply Kd.V_alloc | apply Kd.V_drewN | apply Kd.V_drew)); exact HO_261001.out) hb); have n4_ := Aside0.mk (Kd.R_below (by (with_reducible repeat (first | apply Kd.R_alloc | apply Kd.R_drewN | apply Kd.R_drew)); exact HO_269001.out) hb); have n5_ := Aside0.mk (blk_below (g := gb232) (o := .cells #[.int .i64 t233, .slice Ao17 t234.length co17, .int .i64 t237] 35 (0, 0)) (by (with_reducible repeat (first | refine blk_drewN ?_ _ | refine blk_drew ?_ | refine blk_alloc ?_ _)); exact BK232.out) hb); have n6_ := Aside0.mk (blk_below (g := gb244) (o := .cells #[.int .i64 t238, .slice Ao24 t239.length co24, .int .i64 t242] 35 (0, 0)) (by (with_reducible repeat (first | refine blk_drewN ?_ _ | refine blk_drew ?_ | refine blk_alloc ?_ _)); exact BK244.out) hb); have n7_ := Aside0.mk (blk_below (g := gb252) (o := .cells #[.int .i64 t245, .slice Ao32 t246.length co32, .int .i64 t249] 35 (0, 0)) (by (with_reducible repeat (first | refine blk_drewN ?_ _ | refine blk_drew ?_ | refine blk_alloc ?_ _)); exact BK252.out) hb); have n8_ := Aside0.mk (blk_below (g := gb260) (o := .cells #[.int .i64 t253, .slice Ao41 t254.length co41, .int .i64 t257] 35 (0, 0)) (by (with_reducible repeat (first | refine blk_drewN ?_ _ | refine blk_drew ?_ | refine blk_alloc ?_ _)); exact BK260.out) hb); have n9_ := Aside0.mk (blk_below (g := gb268) (o := .cells #[.int .i64 t261, .slice Ao50 t262.length co50, .int .i64 t265] 35 (0, 0)) (by (with_reducible repeat (first | refine blk_drewN ?_ _ | refine blk_drew ?_ | refine blk_alloc ?_ _)); exact BK268.out) hb); have n10_ := Aside0.mk (blk_below (g := gb269) (o := .cells #[.int .i64 0, .slice none 0 0, .int .i64 0] 35 (0, 0)) (by (with_reducible repeat (first | refine blk_drewN ?_ _ | refine blk_drew ?_ | refine blk_alloc ?_ _)); exact BK269.out) hb); have n11_ := Aside0.mk (below_step (by repeat (first | (with_reducible first | exact HB.out | apply below_alloc | apply pw_below_drewN | apply below_drew1 | refine below_set ?_ GE232.out | refine below_set ?_ GE244.out | refine below_set ?_ GE252.out | refine below_set ?_ GE260.out | refine below_set ?_ GE268.out | refine below_set ?_ GE269.out) | exact HB.out)) hb); clear HO_233001; clear HO_245001; clear HO_253001; clear HO_261001; clear HO_269001; clear BK232; clear BK244; clear BK252; clear BK260; clear BK268; clear BK269; clear HB; have HO_233001 := n0_; have HO_245001 := n1_; have HO_253001 := n2_; have HO_261001 := n3_; have HO_269001 := n4_; have BK232 := n5_; have BK244 := n6_; have BK252 := n7_; have BK260 := n8_; have BK268 := n9_; have BK269 := n10_; have HB := n11_; clear n0_ n1_ n2_ n3_ n4_ n5_ n6_ n7_ n8_ n9_ n10_ n11_; (try clear hb); (try clear hb2); (try clear hk); (try clear hi); have hnb359 := NB260_244.out; have hnc359 := NB244_260.out; have hnb360 := NB260_268.out; have hnc360 := NB268_260.out; have hcz361_0 : w358.cell? ⟨gb260, 0, none⟩ = some (.int .i64 t253) := (blk_cell BK260.out 0).trans rfl; have hcz361_1 : w358.cell? ⟨gb260, 1, none⟩ = some (.slice Ao41 t254.length co41) := (blk_cell BK260.out 1).trans rfl; have hcz361_2 : w358.cell? ⟨gb260, 2, none⟩ = some (.int .i64 t257) := (blk_cell BK260.out 2).trans rfl; have hfz361_0 := blk_frozen BK260.out 0; have hfz361_1 := blk_frozen BK260.out 1; have hfz361_2 := blk_frozen BK260.out 2; have hcz362_0 : w358.cell? ⟨gb269, 0, none⟩ = some (.int .i64 0) := (blk_cell BK269.out 0).trans rfl; have hcz362_1 : w358.cell? ⟨gb269, 1, none⟩ = some (.slice none 0 0) := (blk_cell BK269.out 1).trans rfl; have hcz362_2 : w358.cell? ⟨gb269, 2, none⟩ = some (.int .i64 0) := (blk_cell BK269.out 2).trans rfl; have hfz362_0 := blk_frozen BK269.out 0; have hfz362_1 := blk_frozen BK269.out 1; have hfz362_2 := blk_frozen BK269.out 2) | (go_at_call_has 28 t253; (refine (footwayref09_Same.calls kj73 t253 _ _ t254 t257 0 _ _ ([] : List ByteArray) 0 false _ ?side1 ?side2 ?side3 ?side4 A313.out).mono ?_); (case side1 => repeat (first | exact (Kd.V_reads' HO_261001.out).2.2 | (with_reducible refine Kd.C_alloc ?_ _) | (with_reducible refine Kd.C_drewN ?_ _) | (with_reducible refine Kd.C_drew ?_))); (case side2 => exact (Kd.V_reads' HO_261001.out).2.1); (case side3 => exact Kd.C_nil _ _); (case side4 => exact Nat.le_refl _); rintro e w363 ⟨rfl, hb⟩; have n0_ := Aside0.mk (Kd.R_below (by (with_reducible repeat (first | apply Kd.R_alloc | apply Kd.R_drewN | apply Kd.R_drew)); exact HO_233001.out) hb); have n1_ := Aside0.mk (Kd.R_below (by (with_reducible repeat (first | apply Kd.R_alloc | apply Kd.R_drewN | apply Kd.R_drew)); exact HO_245001.out) hb); have n2_ := Aside0.mk (Kd.V_below (by (with_reducible repeat (first | apply Kd.V_alloc | apply Kd.V_drewN | apply Kd.V_drew)); exact HO_253001.out) hb); have n3_ := Aside0.mk (Kd.V_below (by (with_reducible repeat (first | apply Kd.V_alloc | apply Kd.V_drewN | apply Kd.V_drew)); exact HO_261001.out) hb); have n4_ := Aside0.mk (Kd.R_below (by (with_reducible repeat (first | apply Kd.R_alloc | apply Kd.R_drewN | apply Kd.R_drew)); exact HO_269001.out) hb); have n5_ := Aside0.mk (blk_below (g := gb232) (o := .cells #[.int .i64 t233, .slice Ao17 t234.length co17, .int .i64 t237] 35 (0, 0)) (by (with_reducible repeat (first | refine blk_drewN ?_ _ | refine blk_drew ?_ | refine blk_alloc ?_ _)); exact BK232.out) hb); have n6_ := Aside0.mk (blk_below (g := gb244) (o := .cells #[.int .i64 t238, .slice Ao24 t239.length co24, .int .i64 t242] 35 (0, 0)) (by (with_reducible repeat (first | refine blk_drewN ?_ _ | refine blk_drew ?_ | refine blk_alloc ?_ _)); exact BK244.out) hb); have n7_ := Aside0.mk (blk_below (g := gb252) (o := .cells #[.int .i64 t245, .slice Ao32 t246.length co32, .int .i64 t249] 35 (0, 0)) (by (with_reducible repeat (first | refine blk_drewN ?_ _ | refine blk_drew ?_ | refine blk_alloc ?_ _)); exact BK252.out) hb); have n8_ := Aside0.mk (blk_below (g := gb260) (o := .cells #[.int .i64 t253, .slice Ao41 t254.length co41, .int .i64 t257] 35 (0, 0)) (by (with_reducible repeat (first | refine blk_drewN ?_ _ | refine blk_drew ?_ | refine blk_alloc ?_ _)); exact BK260.out) hb); have n9_ := Aside0.mk (blk_below (g := gb268) (o := .cells #[.int .i64 t261, .slice Ao50 t262.length co50, .int .i64 t265] 35 (0, 0)) (by (with_reducible repeat (first | refine blk_drewN ?_ _ | refine blk_drew ?_ | refine blk_alloc ?_ _)); exact BK268.out) hb); have n10_ := Aside0.mk (blk_below (g := gb269) (o := .cells #[.int .i64 0, .slice none 0 0, .int .i64 0] 35 (0, 0)) (by (with_reducible repeat (first | refine blk_drewN ?_ _ | refine blk_drew ?_ | refine blk_alloc ?_ _)); exact BK269.out) hb); have n11_ := Aside0.mk (below_step (by repeat (first | (with_reducible first | exact HB.out | apply below_alloc | apply pw_below_drewN | apply below_drew1 | refine below_set ?_ GE232.out | refine below_set ?_ GE244.out | refine below_set ?_ GE252.out | refine below_set ?_ GE260.out | refine below_set ?_ GE268.out | refine below_set ?_ GE269.out) | exact HB.out)) hb); clear HO_233001; clear HO_245001; clear HO_253001; clear HO_261001; clear HO_269001; clear BK232; clear BK244; clear BK252; clear BK260; clear BK268; clear BK269; clear HB; have HO_233001 := n0_; have HO_245001 := n1_; have HO_253001 := n2_; have HO_261001 := n3_; have HO_269001 := n4_; have BK232 := n5_; have BK244 := n6_; have BK252 := n7_; have BK260 := n8_; have BK268 := n9_; have BK269 := n10_; have HB := n11_; clear n0_ n1_ n2_ n3_ n4_ n5_ n6_ n7_ n8_ n9_ n10_ n11_; (try clear hb); (try clear hb2); (try clear hk); (try clear hi)))
                                go_ret
                                exact ⟨by first | rfl | (simp [errW_none, errW_some] <;> rfl) | (simp only [← hji5]; first | rfl | (simp [errW_none, errW_some] <;> rfl)) | (simp [*, errW_none, errW_some] <;> rfl), by repeat (first | (with_reducible first | exact HB.out | apply below_alloc | apply pw_below_drewN | apply below_drew1 | refine below_set ?_ GE232.out | refine below_set ?_ GE244.out | refine below_set ?_ GE252.out | refine below_set ?_ GE260.out | refine below_set ?_ GE268.out | refine below_set ?_ GE269.out) | exact HB.out)⟩
                            · replace c312 := Bool.eq_false_iff.mpr c312
                              subst c312
                              have H1 : (some false) = some r := by rw [if_neg (show ¬ (false = true) by decide)] at H; exact H
                              clear H
                              have H := H1
                              clear H1
                              obtain rfl := Option.some.inj H
                              have hnb364 := NB232_244.out
                              have hnc364 := NB244_232.out
                              have hnb365 := NB232_252.out
                              have hnc365 := NB252_232.out
                              have hnb366 := NB232_260.out
                              have hnc366 := NB260_232.out
                              have hnb367 := NB232_268.out
                              have hnc367 := NB268_232.out
                              have hnb368 := NB232_269.out
                              have hnc368 := NB269_232.out
                              have hcz369_0 : wc.cell? ⟨gb232, 0, none⟩ = some (.int .i64 t233) := (blk_cell BK232.out 0).trans rfl
                              have hcz369_1 : wc.cell? ⟨gb232, 1, none⟩ = some (.slice Ao17 t234.length co17) := (blk_cell BK232.out 1).trans rfl
                              have hcz369_2 : wc.cell? ⟨gb232, 2, none⟩ = some (.int .i64 t237) := (blk_cell BK232.out 2).trans rfl
                              have hfz369_0 := blk_frozen BK232.out 0
                              have hfz369_1 := blk_frozen BK232.out 1
                              have hfz369_2 := blk_frozen BK232.out 2
                              go_wp2_with (first | ((with_reducible refine gate_callee (f := 26) rfl ?_); refine goesL_ (some 88) rfl rfl Try.func26 (by kernel_rfl) rfl #[.agg #[.int .i64 t233, .slice Ao17 t234.length co17, .int .i64 t237]] rfl (by (try simp only [List.map_toArray, List.map_cons, List.map_nil]); first | done | rfl | (simp only [List.length_drop, List.length_take]; rfl)) ?_; (with_reducible refine (footwayref09_Right.calls kj73 t233 _ _ t234 t237 false _ ?side1 ?side2 A120.out).mono ?_); (case side1 => repeat (first | exact (Kd.R_reads' HO_233001.out).2.2 | (with_reducible refine Kd.C_alloc ?_ _) | (with_reducible refine Kd.C_drewN ?_ _) | (with_reducible refine Kd.C_drew ?_))); (case side2 => exact (Kd.R_reads' HO_233001.out).2.1); rintro e w370 ⟨rfl, hb⟩; refine ⟨_, rfl, ?_⟩; have n0_ := Aside0.mk (Kd.R_below (by (with_reducible repeat (first | apply Kd.R_alloc | apply Kd.R_drewN | apply Kd.R_drew)); exact HO_233001.out) hb); have n1_ := Aside0.mk (Kd.R_below (by (with_reducible repeat (first | apply Kd.R_alloc | apply Kd.R_drewN | apply Kd.R_drew)); exact HO_245001.out) hb); have n2_ := Aside0.mk (Kd.V_below (by (with_reducible repeat (first | apply Kd.V_alloc | apply Kd.V_drewN | apply Kd.V_drew)); exact HO_253001.out) hb); have n3_ := Aside0.mk (Kd.V_below (by (with_reducible repeat (first | apply Kd.V_alloc | apply Kd.V_drewN | apply Kd.V_drew)); exact HO_261001.out) hb); have n4_ := Aside0.mk (Kd.R_below (by (with_reducible repeat (first | apply Kd.R_alloc | apply Kd.R_drewN | apply Kd.R_drew)); exact HO_269001.out) hb); have n5_ := Aside0.mk (blk_below (g := gb232) (o := .cells #[.int .i64 t233, .slice Ao17 t234.length co17, .int .i64 t237] 35 (0, 0)) (by (with_reducible repeat (first | refine blk_drewN ?_ _ | refine blk_drew ?_ | refine blk_alloc ?_ _)); exact BK232.out) hb); have n6_ := Aside0.mk (blk_below (g := gb244) (o := .cells #[.int .i64 t238, .slice Ao24 t239.length co24, .int .i64 t242] 35 (0, 0)) (by (with_reducible repeat (first | refine blk_drewN ?_ _ | refine blk_drew ?_ | refine blk_alloc ?_ _)); exact BK244.out) hb); have n7_ := Aside0.mk (blk_below (g := gb252) (o := .cells #[.int .i64 t245, .slice Ao32 t246.length co32, .int .i64 t249] 35 (0, 0)) (by (with_reducible repeat (first | refine blk_drewN ?_ _ | refine blk_drew ?_ | refine blk_alloc ?_ _)); exact BK252.out) hb); have n8_ := Aside0.mk (blk_below (g := gb260) (o := .cells #[.int .i64 t253, .slice Ao41 t254.length co41, .int .i64 t257] 35 (0, 0)) (by (with_reducible repeat (first | refine blk_drewN ?_ _ | refine blk_drew ?_ | refine blk_alloc ?_ _)); exact BK260.out) hb); have n9_ := Aside0.mk (blk_below (g := gb268) (o := .cells #[.int .i64 t261, .slice Ao50 t262.length co50, .int .i64 t265] 35 (0, 0)) (by (with_reducible repeat (first | refine blk_drewN ?_ _ | refine blk_drew ?_ | refine blk_alloc ?_ _)); exact BK268.out) hb); have n10_ := Aside0.mk (blk_below (g := gb269) (o := .cells #[.int .i64 0, .slice none 0 0, .int .i64 0] 35 (0, 0)) (by (with_reducible repeat (first | refine blk_drewN ?_ _ | refine blk_drew ?_ | refine blk_alloc ?_ _)); exact BK269.out) hb); have n11_ := Aside0.mk (below_step (by repeat (first | (with_reducible first | exact HB.out | apply below_alloc | apply pw_below_drewN | apply below_drew1 | refine below_set ?_ GE232.out | refine below_set ?_ GE244.out | refine below_set ?_ GE252.out | refine below_set ?_ GE260.out | refine below_set ?_ GE268.out | refine below_set ?_ GE269.out) | exact HB.out)) hb); clear HO_233001; clear HO_245001; clear HO_253001; clear HO_261001; clear HO_269001; clear BK232; clear BK244; clear BK252; clear BK260; clear BK268; clear BK269; clear HB; have HO_233001 := n0_; have HO_245001 := n1_; have HO_253001 := n2_; have HO_261001 := n3_; have HO_269001 := n4_; have BK232 := n5_; have BK244 := n6_; have BK252 := n7_; have BK260 := n8_; have BK268 := n9_; have BK269 := n10_; have HB := n11_; clear n0_ n1_ n2_ n3_ n4_ n5_ n6_ n7_ n8_ n9_ n10_ n11_; (try clear hb); (try clear hb2); (try clear hk); (try clear hi); have hnb371 := NB252_244.out; have hnc371 := NB244_252.out; have hnb372 := NB252_260.out; have hnc372 := NB260_252.out; have hnb373 := NB252_268.out; have hnc373 := NB268_252.out; have hnb374 := NB252_269.out; have hnc374 := NB269_252.out; have hcz375_0 : w370.cell? ⟨gb252, 0, none⟩ = some (.int .i64 t245) := (blk_cell BK252.out 0).trans rfl; have hcz375_1 : w370.cell? ⟨gb252, 1, none⟩ = some (.slice Ao32 t246.length co32) := (blk_cell BK252.out 1).trans rfl; have hcz375_2 : w370.cell? ⟨gb252, 2, none⟩ = some (.int .i64 t249) := (blk_cell BK252.out 2).trans rfl; have hfz375_0 := blk_frozen BK252.out 0; have hfz375_1 := blk_frozen BK252.out 1; have hfz375_2 := blk_frozen BK252.out 2; have hnb376 := NB269_244.out; have hnc376 := NB244_269.out; have hnb377 := NB269_260.out; have hnc377 := NB260_269.out; have hnb378 := NB269_268.out; have hnc378 := NB268_269.out; have hcz379_0 : w370.cell? ⟨gb269, 0, none⟩ = some (.int .i64 0) := (blk_cell BK269.out 0).trans rfl; have hcz379_1 : w370.cell? ⟨gb269, 1, none⟩ = some (.slice none 0 0) := (blk_cell BK269.out 1).trans rfl; have hcz379_2 : w370.cell? ⟨gb269, 2, none⟩ = some (.int .i64 0) := (blk_cell BK269.out 2).trans rfl; have hfz379_0 := blk_frozen BK269.out 0; have hfz379_1 := blk_frozen BK269.out 1; have hfz379_2 := blk_frozen BK269.out 2) | (go_at_call 28; (refine (footwayref09_Same.calls kj73 t245 _ _ t246 t249 0 _ _ ([] : List ByteArray) 0 false _ ?side1 ?side2 ?side3 ?side4 A311.out).mono ?_); (case side1 => repeat (first | exact (Kd.V_reads' HO_253001.out).2.2 | (with_reducible refine Kd.C_alloc ?_ _) | (with_reducible refine Kd.C_drewN ?_ _) | (with_reducible refine Kd.C_drew ?_))); (case side2 => exact (Kd.V_reads' HO_253001.out).2.1); (case side3 => exact Kd.C_nil _ _); (case side4 => exact Nat.le_refl _); rintro e w380 ⟨rfl, hb⟩; have n0_ := Aside0.mk (Kd.R_below (by (with_reducible repeat (first | apply Kd.R_alloc | apply Kd.R_drewN | apply Kd.R_drew)); exact HO_233001.out) hb); have n1_ := Aside0.mk (Kd.R_below (by (with_reducible repeat (first | apply Kd.R_alloc | apply Kd.R_drewN | apply Kd.R_drew)); exact HO_245001.out) hb); have n2_ := Aside0.mk (Kd.V_below (by (with_reducible repeat (first | apply Kd.V_alloc | apply Kd.V_drewN | apply Kd.V_drew)); exact HO_253001.out) hb); have n3_ := Aside0.mk (Kd.V_below (by (with_reducible repeat (first | apply Kd.V_alloc | apply Kd.V_drewN | apply Kd.V_drew)); exact HO_261001.out) hb); have n4_ := Aside0.mk (Kd.R_below (by (with_reducible repeat (first | apply Kd.R_alloc | apply Kd.R_drewN | apply Kd.R_drew)); exact HO_269001.out) hb); have n5_ := Aside0.mk (blk_below (g := gb232) (o := .cells #[.int .i64 t233, .slice Ao17 t234.length co17, .int .i64 t237] 35 (0, 0)) (by (with_reducible repeat (first | refine blk_drewN ?_ _ | refine blk_drew ?_ | refine blk_alloc ?_ _)); exact BK232.out) hb); have n6_ := Aside0.mk (blk_below (g := gb244) (o := .cells #[.int .i64 t238, .slice Ao24 t239.length co24, .int .i64 t242] 35 (0, 0)) (by (with_reducible repeat (first | refine blk_drewN ?_ _ | refine blk_drew ?_ | refine blk_alloc ?_ _)); exact BK244.out) hb); have n7_ := Aside0.mk (blk_below (g := gb252) (o := .cells #[.int .i64 t245, .slice Ao32 t246.length co32, .int .i64 t249] 35 (0, 0)) (by (with_reducible repeat (first | refine blk_drewN ?_ _ | refine blk_drew ?_ | refine blk_alloc ?_ _)); exact BK252.out) hb); have n8_ := Aside0.mk (blk_below (g := gb260) (o := .cells #[.int .i64 t253, .slice Ao41 t254.length co41, .int .i64 t257] 35 (0, 0)) (by (with_reducible repeat (first | refine blk_drewN ?_ _ | refine blk_drew ?_ | refine blk_alloc ?_ _)); exact BK260.out) hb); have n9_ := Aside0.mk (blk_below (g := gb268) (o := .cells #[.int .i64 t261, .slice Ao50 t262.length co50, .int .i64 t265] 35 (0, 0)) (by (with_reducible repeat (first | refine blk_drewN ?_ _ | refine blk_drew ?_ | refine blk_alloc ?_ _)); exact BK268.out) hb); have n10_ := Aside0.mk (blk_below (g := gb269) (o := .cells #[.int .i64 0, .slice none 0 0, .int .i64 0] 35 (0, 0)) (by (with_reducible repeat (first | refine blk_drewN ?_ _ | refine blk_drew ?_ | refine blk_alloc ?_ _)); exact BK269.out) hb); have n11_ := Aside0.mk (below_step (by repeat (first | (with_reducible first | exact HB.out | apply below_alloc | apply pw_below_drewN | apply below_drew1 | refine below_set ?_ GE232.out | refine below_set ?_ GE244.out | refine below_set ?_ GE252.out | refine below_set ?_ GE260.out | refine below_set ?_ GE268.out | refine below_set ?_ GE269.out) | exact HB.out)) hb); clear HO_233001; clear HO_245001; clear HO_253001; clear HO_261001; clear HO_269001; clear BK232; clear BK244; clear BK252; clear BK260; clear BK268; clear BK269; clear HB; have HO_233001 := n0_; have HO_245001 := n1_; have HO_253001 := n2_; have HO_261001 := n3_; have HO_269001 := n4_; have BK232 := n5_; have BK244 := n6_; have BK252 := n7_; have BK260 := n8_; have BK268 := n9_; have BK269 := n10_; have HB := n11_; clear n0_ n1_ n2_ n3_ n4_ n5_ n6_ n7_ n8_ n9_ n10_ n11_; (try clear hb); (try clear hb2); (try clear hk); (try clear hi)))
                              go_ret
                              exact ⟨by first | rfl | (simp [errW_none, errW_some] <;> rfl) | (simp only [← hji5]; first | rfl | (simp [errW_none, errW_some] <;> rfl)) | (simp [*, errW_none, errW_some] <;> rfl), by repeat (first | (with_reducible first | exact HB.out | apply below_alloc | apply pw_below_drewN | apply below_drew1 | refine below_set ?_ GE232.out | refine below_set ?_ GE244.out | refine below_set ?_ GE252.out | refine below_set ?_ GE260.out | refine below_set ?_ GE268.out | refine below_set ?_ GE269.out) | exact HB.out)⟩
                          · rw [if_neg c310] at H
                            have c310b0 : (t266 == 0) = false := beq_eq_false_iff_ne.mpr c310
                            have c310b1 : (t266 != 0) = true := bne_iff_ne.mpr c310
                            obtain rfl := Option.some.inj H
                            have hnb381 := NB232_244.out
                            have hnc381 := NB244_232.out
                            have hnb382 := NB232_252.out
                            have hnc382 := NB252_232.out
                            have hnb383 := NB232_260.out
                            have hnc383 := NB260_232.out
                            have hnb384 := NB232_268.out
                            have hnc384 := NB268_232.out
                            have hnb385 := NB232_269.out
                            have hnc385 := NB269_232.out
                            have hcz386_0 : wc.cell? ⟨gb232, 0, none⟩ = some (.int .i64 t233) := (blk_cell BK232.out 0).trans rfl
                            have hcz386_1 : wc.cell? ⟨gb232, 1, none⟩ = some (.slice Ao17 t234.length co17) := (blk_cell BK232.out 1).trans rfl
                            have hcz386_2 : wc.cell? ⟨gb232, 2, none⟩ = some (.int .i64 t237) := (blk_cell BK232.out 2).trans rfl
                            have hfz386_0 := blk_frozen BK232.out 0
                            have hfz386_1 := blk_frozen BK232.out 1
                            have hfz386_2 := blk_frozen BK232.out 2
                            go_wp2_with (first | ((with_reducible refine gate_callee (f := 26) rfl ?_); refine goesL_ (some 88) rfl rfl Try.func26 (by kernel_rfl) rfl #[.agg #[.int .i64 t233, .slice Ao17 t234.length co17, .int .i64 t237]] rfl (by (try simp only [List.map_toArray, List.map_cons, List.map_nil]); first | done | rfl | (simp only [List.length_drop, List.length_take]; rfl)) ?_; (with_reducible refine (footwayref09_Right.calls kj73 t233 _ _ t234 t237 false _ ?side1 ?side2 A120.out).mono ?_); (case side1 => repeat (first | exact (Kd.R_reads' HO_233001.out).2.2 | (with_reducible refine Kd.C_alloc ?_ _) | (with_reducible refine Kd.C_drewN ?_ _) | (with_reducible refine Kd.C_drew ?_))); (case side2 => exact (Kd.R_reads' HO_233001.out).2.1); rintro e w387 ⟨rfl, hb⟩; refine ⟨_, rfl, ?_⟩; have n0_ := Aside0.mk (Kd.R_below (by (with_reducible repeat (first | apply Kd.R_alloc | apply Kd.R_drewN | apply Kd.R_drew)); exact HO_233001.out) hb); have n1_ := Aside0.mk (Kd.R_below (by (with_reducible repeat (first | apply Kd.R_alloc | apply Kd.R_drewN | apply Kd.R_drew)); exact HO_245001.out) hb); have n2_ := Aside0.mk (Kd.V_below (by (with_reducible repeat (first | apply Kd.V_alloc | apply Kd.V_drewN | apply Kd.V_drew)); exact HO_253001.out) hb); have n3_ := Aside0.mk (Kd.V_below (by (with_reducible repeat (first | apply Kd.V_alloc | apply Kd.V_drewN | apply Kd.V_drew)); exact HO_261001.out) hb); have n4_ := Aside0.mk (Kd.R_below (by (with_reducible repeat (first | apply Kd.R_alloc | apply Kd.R_drewN | apply Kd.R_drew)); exact HO_269001.out) hb); have n5_ := Aside0.mk (blk_below (g := gb232) (o := .cells #[.int .i64 t233, .slice Ao17 t234.length co17, .int .i64 t237] 35 (0, 0)) (by (with_reducible repeat (first | refine blk_drewN ?_ _ | refine blk_drew ?_ | refine blk_alloc ?_ _)); exact BK232.out) hb); have n6_ := Aside0.mk (blk_below (g := gb244) (o := .cells #[.int .i64 t238, .slice Ao24 t239.length co24, .int .i64 t242] 35 (0, 0)) (by (with_reducible repeat (first | refine blk_drewN ?_ _ | refine blk_drew ?_ | refine blk_alloc ?_ _)); exact BK244.out) hb); have n7_ := Aside0.mk (blk_below (g := gb252) (o := .cells #[.int .i64 t245, .slice Ao32 t246.length co32, .int .i64 t249] 35 (0, 0)) (by (with_reducible repeat (first | refine blk_drewN ?_ _ | refine blk_drew ?_ | refine blk_alloc ?_ _)); exact BK252.out) hb); have n8_ := Aside0.mk (blk_below (g := gb260) (o := .cells #[.int .i64 t253, .slice Ao41 t254.length co41, .int .i64 t257] 35 (0, 0)) (by (with_reducible repeat (first | refine blk_drewN ?_ _ | refine blk_drew ?_ | refine blk_alloc ?_ _)); exact BK260.out) hb); have n9_ := Aside0.mk (blk_below (g := gb268) (o := .cells #[.int .i64 t261, .slice Ao50 t262.length co50, .int .i64 t265] 35 (0, 0)) (by (with_reducible repeat (first | refine blk_drewN ?_ _ | refine blk_drew ?_ | refine blk_alloc ?_ _)); exact BK268.out) hb); have n10_ := Aside0.mk (blk_below (g := gb269) (o := .cells #[.int .i64 0, .slice none 0 0, .int .i64 0] 35 (0, 0)) (by (with_reducible repeat (first | refine blk_drewN ?_ _ | refine blk_drew ?_ | refine blk_alloc ?_ _)); exact BK269.out) hb); have n11_ := Aside0.mk (below_step (by repeat (first | (with_reducible first | exact HB.out | apply below_alloc | apply pw_below_drewN | apply below_drew1 | refine below_set ?_ GE232.out | refine below_set ?_ GE244.out | refine below_set ?_ GE252.out | refine below_set ?_ GE260.out | refine below_set ?_ GE268.out | refine below_set ?_ GE269.out) | exact HB.out)) hb); clear HO_233001; clear HO_245001; clear HO_253001; clear HO_261001; clear HO_269001; clear BK232; clear BK244; clear BK252; clear BK260; clear BK268; clear BK269; clear HB; have HO_233001 := n0_; have HO_245001 := n1_; have HO_253001 := n2_; have HO_261001 := n3_; have HO_269001 := n4_; have BK232 := n5_; have BK244 := n6_; have BK252 := n7_; have BK260 := n8_; have BK268 := n9_; have BK269 := n10_; have HB := n11_; clear n0_ n1_ n2_ n3_ n4_ n5_ n6_ n7_ n8_ n9_ n10_ n11_; (try clear hb); (try clear hb2); (try clear hk); (try clear hi)))
                            go_ret
                            exact ⟨by first | rfl | (simp [errW_none, errW_some] <;> rfl) | (simp only [← hji5]; first | rfl | (simp [errW_none, errW_some] <;> rfl)) | (simp [*, errW_none, errW_some] <;> rfl), by repeat (first | (with_reducible first | exact HB.out | apply below_alloc | apply pw_below_drewN | apply below_drew1 | refine below_set ?_ GE232.out | refine below_set ?_ GE244.out | refine below_set ?_ GE252.out | refine below_set ?_ GE260.out | refine below_set ?_ GE268.out | refine below_set ?_ GE269.out) | exact HB.out)⟩
                        · rw [if_neg c309] at H
                          have c309b0 : (t258.toList == ([] : List UInt8)) = false := beq_eq_false_iff_ne.mpr c309
                          have c309b1 : (t258.toList != ([] : List UInt8)) = true := bne_iff_ne.mpr c309
                          obtain rfl := Option.some.inj H
                          have hnb388 := NB232_244.out
                          have hnc388 := NB244_232.out
                          have hnb389 := NB232_252.out
                          have hnc389 := NB252_232.out
                          have hnb390 := NB232_260.out
                          have hnc390 := NB260_232.out
                          have hnb391 := NB232_268.out
                          have hnc391 := NB268_232.out
                          have hnb392 := NB232_269.out
                          have hnc392 := NB269_232.out
                          have hcz393_0 : wc.cell? ⟨gb232, 0, none⟩ = some (.int .i64 t233) := (blk_cell BK232.out 0).trans rfl
                          have hcz393_1 : wc.cell? ⟨gb232, 1, none⟩ = some (.slice Ao17 t234.length co17) := (blk_cell BK232.out 1).trans rfl
                          have hcz393_2 : wc.cell? ⟨gb232, 2, none⟩ = some (.int .i64 t237) := (blk_cell BK232.out 2).trans rfl
                          have hfz393_0 := blk_frozen BK232.out 0
                          have hfz393_1 := blk_frozen BK232.out 1
                          have hfz393_2 := blk_frozen BK232.out 2
                          go_wp2_with (first | ((with_reducible refine gate_callee (f := 26) rfl ?_); refine goesL_ (some 88) rfl rfl Try.func26 (by kernel_rfl) rfl #[.agg #[.int .i64 t233, .slice Ao17 t234.length co17, .int .i64 t237]] rfl (by (try simp only [List.map_toArray, List.map_cons, List.map_nil]); first | done | rfl | (simp only [List.length_drop, List.length_take]; rfl)) ?_; (with_reducible refine (footwayref09_Right.calls kj73 t233 _ _ t234 t237 false _ ?side1 ?side2 A120.out).mono ?_); (case side1 => repeat (first | exact (Kd.R_reads' HO_233001.out).2.2 | (with_reducible refine Kd.C_alloc ?_ _) | (with_reducible refine Kd.C_drewN ?_ _) | (with_reducible refine Kd.C_drew ?_))); (case side2 => exact (Kd.R_reads' HO_233001.out).2.1); rintro e w394 ⟨rfl, hb⟩; refine ⟨_, rfl, ?_⟩; have n0_ := Aside0.mk (Kd.R_below (by (with_reducible repeat (first | apply Kd.R_alloc | apply Kd.R_drewN | apply Kd.R_drew)); exact HO_233001.out) hb); have n1_ := Aside0.mk (Kd.R_below (by (with_reducible repeat (first | apply Kd.R_alloc | apply Kd.R_drewN | apply Kd.R_drew)); exact HO_245001.out) hb); have n2_ := Aside0.mk (Kd.V_below (by (with_reducible repeat (first | apply Kd.V_alloc | apply Kd.V_drewN | apply Kd.V_drew)); exact HO_253001.out) hb); have n3_ := Aside0.mk (Kd.V_below (by (with_reducible repeat (first | apply Kd.V_alloc | apply Kd.V_drewN | apply Kd.V_drew)); exact HO_261001.out) hb); have n4_ := Aside0.mk (Kd.R_below (by (with_reducible repeat (first | apply Kd.R_alloc | apply Kd.R_drewN | apply Kd.R_drew)); exact HO_269001.out) hb); have n5_ := Aside0.mk (blk_below (g := gb232) (o := .cells #[.int .i64 t233, .slice Ao17 t234.length co17, .int .i64 t237] 35 (0, 0)) (by (with_reducible repeat (first | refine blk_drewN ?_ _ | refine blk_drew ?_ | refine blk_alloc ?_ _)); exact BK232.out) hb); have n6_ := Aside0.mk (blk_below (g := gb244) (o := .cells #[.int .i64 t238, .slice Ao24 t239.length co24, .int .i64 t242] 35 (0, 0)) (by (with_reducible repeat (first | refine blk_drewN ?_ _ | refine blk_drew ?_ | refine blk_alloc ?_ _)); exact BK244.out) hb); have n7_ := Aside0.mk (blk_below (g := gb252) (o := .cells #[.int .i64 t245, .slice Ao32 t246.length co32, .int .i64 t249] 35 (0, 0)) (by (with_reducible repeat (first | refine blk_drewN ?_ _ | refine blk_drew ?_ | refine blk_alloc ?_ _)); exact BK252.out) hb); have n8_ := Aside0.mk (blk_below (g := gb260) (o := .cells #[.int .i64 t253, .slice Ao41 t254.length co41, .int .i64 t257] 35 (0, 0)) (by (with_reducible repeat (first | refine blk_drewN ?_ _ | refine blk_drew ?_ | refine blk_alloc ?_ _)); exact BK260.out) hb); have n9_ := Aside0.mk (blk_below (g := gb268) (o := .cells #[.int .i64 t261, .slice Ao50 t262.length co50, .int .i64 t265] 35 (0, 0)) (by (with_reducible repeat (first | refine blk_drewN ?_ _ | refine blk_drew ?_ | refine blk_alloc ?_ _)); exact BK268.out) hb); have n10_ := Aside0.mk (blk_below (g := gb269) (o := .cells #[.int .i64 0, .slice none 0 0, .int .i64 0] 35 (0, 0)) (by (with_reducible repeat (first | refine blk_drewN ?_ _ | refine blk_drew ?_ | refine blk_alloc ?_ _)); exact BK269.out) hb); have n11_ := Aside0.mk (below_step (by repeat (first | (with_reducible first | exact HB.out | apply below_alloc | apply pw_below_drewN | apply below_drew1 | refine below_set ?_ GE232.out | refine below_set ?_ GE244.out | refine below_set ?_ GE252.out | refine below_set ?_ GE260.out | refine below_set ?_ GE268.out | refine below_set ?_ GE269.out) | exact HB.out)) hb); clear HO_233001; clear HO_245001; clear HO_253001; clear HO_261001; clear HO_269001; clear BK232; clear BK244; clear BK252; clear BK260; clear BK268; clear BK269; clear HB; have HO_233001 := n0_; have HO_245001 := n1_; have HO_253001 := n2_; have HO_261001 := n3_; have HO_269001 := n4_; have BK232 := n5_; have BK244 := n6_; have BK252 := n7_; have BK260 := n8_; have BK268 := n9_; have BK269 := n10_; have HB := n11_; clear n0_ n1_ n2_ n3_ n4_ n5_ n6_ n7_ n8_ n9_ n10_ n11_; (try clear hb); (try clear hb2); (try clear hk); (try clear hi)))
                          go_ret
                          exact ⟨by first | rfl | (simp [errW_none, errW_some] <;> rfl) | (simp only [← hji5]; first | rfl | (simp [errW_none, errW_some] <;> rfl)) | (simp [*, errW_none, errW_some] <;> rfl), by repeat (first | (with_reducible first | exact HB.out | apply below_alloc | apply pw_below_drewN | apply below_drew1 | refine below_set ?_ GE232.out | refine below_set ?_ GE244.out | refine below_set ?_ GE252.out | refine below_set ?_ GE260.out | refine below_set ?_ GE268.out | refine below_set ?_ GE269.out) | exact HB.out)⟩
                    · rw [if_neg c300] at H
                      have c300b0 : (t267 == 1) = false := beq_eq_false_iff_ne.mpr c300
                      have c300b1 : (t267 != 1) = true := bne_iff_ne.mpr c300
                      obtain rfl := Option.some.inj H
                      have hnb395 := NB232_244.out
                      have hnc395 := NB244_232.out
                      have hnb396 := NB232_252.out
                      have hnc396 := NB252_232.out
                      have hnb397 := NB232_260.out
                      have hnc397 := NB260_232.out
                      have hnb398 := NB232_268.out
                      have hnc398 := NB268_232.out
                      have hnb399 := NB232_269.out
                      have hnc399 := NB269_232.out
                      have hcz400_0 : wc.cell? ⟨gb232, 0, none⟩ = some (.int .i64 t233) := (blk_cell BK232.out 0).trans rfl
                      have hcz400_1 : wc.cell? ⟨gb232, 1, none⟩ = some (.slice Ao17 t234.length co17) := (blk_cell BK232.out 1).trans rfl
                      have hcz400_2 : wc.cell? ⟨gb232, 2, none⟩ = some (.int .i64 t237) := (blk_cell BK232.out 2).trans rfl
                      have hfz400_0 := blk_frozen BK232.out 0
                      have hfz400_1 := blk_frozen BK232.out 1
                      have hfz400_2 := blk_frozen BK232.out 2
                      go_wp2_with (first | ((with_reducible refine gate_callee (f := 26) rfl ?_); refine goesL_ (some 88) rfl rfl Try.func26 (by kernel_rfl) rfl #[.agg #[.int .i64 t233, .slice Ao17 t234.length co17, .int .i64 t237]] rfl (by (try simp only [List.map_toArray, List.map_cons, List.map_nil]); first | done | rfl | (simp only [List.length_drop, List.length_take]; rfl)) ?_; (with_reducible refine (footwayref09_Right.calls kj73 t233 _ _ t234 t237 false _ ?side1 ?side2 A120.out).mono ?_); (case side1 => repeat (first | exact (Kd.R_reads' HO_233001.out).2.2 | (with_reducible refine Kd.C_alloc ?_ _) | (with_reducible refine Kd.C_drewN ?_ _) | (with_reducible refine Kd.C_drew ?_))); (case side2 => exact (Kd.R_reads' HO_233001.out).2.1); rintro e w401 ⟨rfl, hb⟩; refine ⟨_, rfl, ?_⟩; have n0_ := Aside0.mk (Kd.R_below (by (with_reducible repeat (first | apply Kd.R_alloc | apply Kd.R_drewN | apply Kd.R_drew)); exact HO_233001.out) hb); have n1_ := Aside0.mk (Kd.R_below (by (with_reducible repeat (first | apply Kd.R_alloc | apply Kd.R_drewN | apply Kd.R_drew)); exact HO_245001.out) hb); have n2_ := Aside0.mk (Kd.V_below (by (with_reducible repeat (first | apply Kd.V_alloc | apply Kd.V_drewN | apply Kd.V_drew)); exact HO_253001.out) hb); have n3_ := Aside0.mk (Kd.V_below (by (with_reducible repeat (first | apply Kd.V_alloc | apply Kd.V_drewN | apply Kd.V_drew)); exact HO_261001.out) hb); have n4_ := Aside0.mk (Kd.R_below (by (with_reducible repeat (first | apply Kd.R_alloc | apply Kd.R_drewN | apply Kd.R_drew)); exact HO_269001.out) hb); have n5_ := Aside0.mk (blk_below (g := gb232) (o := .cells #[.int .i64 t233, .slice Ao17 t234.length co17, .int .i64 t237] 35 (0, 0)) (by (with_reducible repeat (first | refine blk_drewN ?_ _ | refine blk_drew ?_ | refine blk_alloc ?_ _)); exact BK232.out) hb); have n6_ := Aside0.mk (blk_below (g := gb244) (o := .cells #[.int .i64 t238, .slice Ao24 t239.length co24, .int .i64 t242] 35 (0, 0)) (by (with_reducible repeat (first | refine blk_drewN ?_ _ | refine blk_drew ?_ | refine blk_alloc ?_ _)); exact BK244.out) hb); have n7_ := Aside0.mk (blk_below (g := gb252) (o := .cells #[.int .i64 t245, .slice Ao32 t246.length co32, .int .i64 t249] 35 (0, 0)) (by (with_reducible repeat (first | refine blk_drewN ?_ _ | refine blk_drew ?_ | refine blk_alloc ?_ _)); exact BK252.out) hb); have n8_ := Aside0.mk (blk_below (g := gb260) (o := .cells #[.int .i64 t253, .slice Ao41 t254.length co41, .int .i64 t257] 35 (0, 0)) (by (with_reducible repeat (first | refine blk_drewN ?_ _ | refine blk_drew ?_ | refine blk_alloc ?_ _)); exact BK260.out) hb); have n9_ := Aside0.mk (blk_below (g := gb268) (o := .cells #[.int .i64 t261, .slice Ao50 t262.length co50, .int .i64 t265] 35 (0, 0)) (by (with_reducible repeat (first | refine blk_drewN ?_ _ | refine blk_drew ?_ | refine blk_alloc ?_ _)); exact BK268.out) hb); have n10_ := Aside0.mk (blk_below (g := gb269) (o := .cells #[.int .i64 0, .slice none 0 0, .int .i64 0] 35 (0, 0)) (by (with_reducible repeat (first | refine blk_drewN ?_ _ | refine blk_drew ?_ | refine blk_alloc ?_ _)); exact BK269.out) hb); have n11_ := Aside0.mk (below_step (by repeat (first | (with_reducible first | exact HB.out | apply below_alloc | apply pw_below_drewN | apply below_drew1 | refine below_set ?_ GE232.out | refine below_set ?_ GE244.out | refine below_set ?_ GE252.out | refine below_set ?_ GE260.out | refine below_set ?_ GE268.out | refine below_set ?_ GE269.out) | exact HB.out)) hb); clear HO_233001; clear HO_245001; clear HO_253001; clear HO_261001; clear HO_269001; clear BK232; clear BK244; clear BK252; clear BK260; clear BK268; clear BK269; clear HB; have HO_233001 := n0_; have HO_245001 := n1_; have HO_253001 := n2_; have HO_261001 := n3_; have HO_269001 := n4_; have BK232 := n5_; have BK244 := n6_; have BK252 := n7_; have BK260 := n8_; have BK268 := n9_; have BK269 := n10_; have HB := n11_; clear n0_ n1_ n2_ n3_ n4_ n5_ n6_ n7_ n8_ n9_ n10_ n11_; (try clear hb); (try clear hb2); (try clear hk); (try clear hi)))
                      go_ret
                      exact ⟨by first | rfl | (simp [errW_none, errW_some] <;> rfl) | (simp only [← hji5]; first | rfl | (simp [errW_none, errW_some] <;> rfl)) | (simp [*, errW_none, errW_some] <;> rfl), by repeat (first | (with_reducible first | exact HB.out | apply below_alloc | apply pw_below_drewN | apply below_drew1 | refine below_set ?_ GE232.out | refine below_set ?_ GE244.out | refine below_set ?_ GE252.out | refine below_set ?_ GE260.out | refine below_set ?_ GE268.out | refine below_set ?_ GE269.out) | exact HB.out)⟩
                  · rw [if_neg c299] at H
                    have c299b0 : (t259 == 1) = false := beq_eq_false_iff_ne.mpr c299
                    have c299b1 : (t259 != 1) = true := bne_iff_ne.mpr c299
                    obtain rfl := Option.some.inj H
                    have hnb402 := NB232_244.out
                    have hnc402 := NB244_232.out
                    have hnb403 := NB232_252.out
                    have hnc403 := NB252_232.out
                    have hnb404 := NB232_260.out
                    have hnc404 := NB260_232.out
                    have hnb405 := NB232_268.out
                    have hnc405 := NB268_232.out
                    have hnb406 := NB232_269.out
                    have hnc406 := NB269_232.out
                    have hcz407_0 : wc.cell? ⟨gb232, 0, none⟩ = some (.int .i64 t233) := (blk_cell BK232.out 0).trans rfl
                    have hcz407_1 : wc.cell? ⟨gb232, 1, none⟩ = some (.slice Ao17 t234.length co17) := (blk_cell BK232.out 1).trans rfl
                    have hcz407_2 : wc.cell? ⟨gb232, 2, none⟩ = some (.int .i64 t237) := (blk_cell BK232.out 2).trans rfl
                    have hfz407_0 := blk_frozen BK232.out 0
                    have hfz407_1 := blk_frozen BK232.out 1
                    have hfz407_2 := blk_frozen BK232.out 2
                    go_wp2_with (first | ((with_reducible refine gate_callee (f := 26) rfl ?_); refine goesL_ (some 88) rfl rfl Try.func26 (by kernel_rfl) rfl #[.agg #[.int .i64 t233, .slice Ao17 t234.length co17, .int .i64 t237]] rfl (by (try simp only [List.map_toArray, List.map_cons, List.map_nil]); first | done | rfl | (simp only [List.length_drop, List.length_take]; rfl)) ?_; (with_reducible refine (footwayref09_Right.calls kj73 t233 _ _ t234 t237 false _ ?side1 ?side2 A120.out).mono ?_); (case side1 => repeat (first | exact (Kd.R_reads' HO_233001.out).2.2 | (with_reducible refine Kd.C_alloc ?_ _) | (with_reducible refine Kd.C_drewN ?_ _) | (with_reducible refine Kd.C_drew ?_))); (case side2 => exact (Kd.R_reads' HO_233001.out).2.1); rintro e w408 ⟨rfl, hb⟩; refine ⟨_, rfl, ?_⟩; have n0_ := Aside0.mk (Kd.R_below (by (with_reducible repeat (first | apply Kd.R_alloc | apply Kd.R_drewN | apply Kd.R_drew)); exact HO_233001.out) hb); have n1_ := Aside0.mk (Kd.R_below (by (with_reducible repeat (first | apply Kd.R_alloc | apply Kd.R_drewN | apply Kd.R_drew)); exact HO_245001.out) hb); have n2_ := Aside0.mk (Kd.V_below (by (with_reducible repeat (first | apply Kd.V_alloc | apply Kd.V_drewN | apply Kd.V_drew)); exact HO_253001.out) hb); have n3_ := Aside0.mk (Kd.V_below (by (with_reducible repeat (first | apply Kd.V_alloc | apply Kd.V_drewN | apply Kd.V_drew)); exact HO_261001.out) hb); have n4_ := Aside0.mk (Kd.R_below (by (with_reducible repeat (first | apply Kd.R_alloc | apply Kd.R_drewN | apply Kd.R_drew)); exact HO_269001.out) hb); have n5_ := Aside0.mk (blk_below (g := gb232) (o := .cells #[.int .i64 t233, .slice Ao17 t234.length co17, .int .i64 t237] 35 (0, 0)) (by (with_reducible repeat (first | refine blk_drewN ?_ _ | refine blk_drew ?_ | refine blk_alloc ?_ _)); exact BK232.out) hb); have n6_ := Aside0.mk (blk_below (g := gb244) (o := .cells #[.int .i64 t238, .slice Ao24 t239.length co24, .int .i64 t242] 35 (0, 0)) (by (with_reducible repeat (first | refine blk_drewN ?_ _ | refine blk_drew ?_ | refine blk_alloc ?_ _)); exact BK244.out) hb); have n7_ := Aside0.mk (blk_below (g := gb252) (o := .cells #[.int .i64 t245, .slice Ao32 t246.length co32, .int .i64 t249] 35 (0, 0)) (by (with_reducible repeat (first | refine blk_drewN ?_ _ | refine blk_drew ?_ | refine blk_alloc ?_ _)); exact BK252.out) hb); have n8_ := Aside0.mk (blk_below (g := gb260) (o := .cells #[.int .i64 t253, .slice Ao41 t254.length co41, .int .i64 t257] 35 (0, 0)) (by (with_reducible repeat (first | refine blk_drewN ?_ _ | refine blk_drew ?_ | refine blk_alloc ?_ _)); exact BK260.out) hb); have n9_ := Aside0.mk (blk_below (g := gb268) (o := .cells #[.int .i64 t261, .slice Ao50 t262.length co50, .int .i64 t265] 35 (0, 0)) (by (with_reducible repeat (first | refine blk_drewN ?_ _ | refine blk_drew ?_ | refine blk_alloc ?_ _)); exact BK268.out) hb); have n10_ := Aside0.mk (blk_below (g := gb269) (o := .cells #[.int .i64 0, .slice none 0 0, .int .i64 0] 35 (0, 0)) (by (with_reducible repeat (first | refine blk_drewN ?_ _ | refine blk_drew ?_ | refine blk_alloc ?_ _)); exact BK269.out) hb); have n11_ := Aside0.mk (below_step (by repeat (first | (with_reducible first | exact HB.out | apply below_alloc | apply pw_below_drewN | apply below_drew1 | refine below_set ?_ GE232.out | refine below_set ?_ GE244.out | refine below_set ?_ GE252.out | refine below_set ?_ GE260.out | refine below_set ?_ GE268.out | refine below_set ?_ GE269.out) | exact HB.out)) hb); clear HO_233001; clear HO_245001; clear HO_253001; clear HO_261001; clear HO_269001; clear BK232; clear BK244; clear BK252; clear BK260; clear BK268; clear BK269; clear HB; have HO_233001 := n0_; have HO_245001 := n1_; have HO_253001 := n2_; have HO_261001 := n3_; have HO_269001 := n4_; have BK232 := n5_; have BK244 := n6_; have BK252 := n7_; have BK260 := n8_; have BK268 := n9_; have BK269 := n10_; have HB := n11_; clear n0_ n1_ n2_ n3_ n4_ n5_ n6_ n7_ n8_ n9_ n10_ n11_; (try clear hb); (try clear hb2); (try clear hk); (try clear hi)))
                    go_ret
                    exact ⟨by first | rfl | (simp [errW_none, errW_some] <;> rfl) | (simp only [← hji5]; first | rfl | (simp [errW_none, errW_some] <;> rfl)) | (simp [*, errW_none, errW_some] <;> rfl), by repeat (first | (with_reducible first | exact HB.out | apply below_alloc | apply pw_below_drewN | apply below_drew1 | refine below_set ?_ GE232.out | refine below_set ?_ GE244.out | refine below_set ?_ GE252.out | refine below_set ?_ GE260.out | refine below_set ?_ GE268.out | refine below_set ?_ GE269.out) | exact HB.out)⟩
                · rw [if_neg c298] at H
                  have c298b0 : (t251 == 1) = false := beq_eq_false_iff_ne.mpr c298
                  have c298b1 : (t251 != 1) = true := bne_iff_ne.mpr c298
                  obtain rfl := Option.some.inj H
                  have hnb409 := NB232_244.out
                  have hnc409 := NB244_232.out
                  have hnb410 := NB232_252.out
                  have hnc410 := NB252_232.out
                  have hnb411 := NB232_260.out
                  have hnc411 := NB260_232.out
                  have hnb412 := NB232_268.out
                  have hnc412 := NB268_232.out
                  have hnb413 := NB232_269.out
                  have hnc413 := NB269_232.out
                  have hcz414_0 : wc.cell? ⟨gb232, 0, none⟩ = some (.int .i64 t233) := (blk_cell BK232.out 0).trans rfl
                  have hcz414_1 : wc.cell? ⟨gb232, 1, none⟩ = some (.slice Ao17 t234.length co17) := (blk_cell BK232.out 1).trans rfl
                  have hcz414_2 : wc.cell? ⟨gb232, 2, none⟩ = some (.int .i64 t237) := (blk_cell BK232.out 2).trans rfl
                  have hfz414_0 := blk_frozen BK232.out 0
                  have hfz414_1 := blk_frozen BK232.out 1
                  have hfz414_2 := blk_frozen BK232.out 2
                  go_wp2_with (first | ((with_reducible refine gate_callee (f := 26) rfl ?_); refine goesL_ (some 88) rfl rfl Try.func26 (by kernel_rfl) rfl #[.agg #[.int .i64 t233, .slice Ao17 t234.length co17, .int .i64 t237]] rfl (by (try simp only [List.map_toArray, List.map_cons, List.map_nil]); first | done | rfl | (simp only [List.length_drop, List.length_take]; rfl)) ?_; (with_reducible refine (footwayref09_Right.calls kj73 t233 _ _ t234 t237 false _ ?side1 ?side2 A120.out).mono ?_); (case side1 => repeat (first | exact (Kd.R_reads' HO_233001.out).2.2 | (with_reducible refine Kd.C_alloc ?_ _) | (with_reducible refine Kd.C_drewN ?_ _) | (with_reducible refine Kd.C_drew ?_))); (case side2 => exact (Kd.R_reads' HO_233001.out).2.1); rintro e w415 ⟨rfl, hb⟩; refine ⟨_, rfl, ?_⟩; have n0_ := Aside0.mk (Kd.R_below (by (with_reducible repeat (first | apply Kd.R_alloc | apply Kd.R_drewN | apply Kd.R_drew)); exact HO_233001.out) hb); have n1_ := Aside0.mk (Kd.R_below (by (with_reducible repeat (first | apply Kd.R_alloc | apply Kd.R_drewN | apply Kd.R_drew)); exact HO_245001.out) hb); have n2_ := Aside0.mk (Kd.V_below (by (with_reducible repeat (first | apply Kd.V_alloc | apply Kd.V_drewN | apply Kd.V_drew)); exact HO_253001.out) hb); have n3_ := Aside0.mk (Kd.V_below (by (with_reducible repeat (first | apply Kd.V_alloc | apply Kd.V_drewN | apply Kd.V_drew)); exact HO_261001.out) hb); have n4_ := Aside0.mk (Kd.R_below (by (with_reducible repeat (first | apply Kd.R_alloc | apply Kd.R_drewN | apply Kd.R_drew)); exact HO_269001.out) hb); have n5_ := Aside0.mk (blk_below (g := gb232) (o := .cells #[.int .i64 t233, .slice Ao17 t234.length co17, .int .i64 t237] 35 (0, 0)) (by (with_reducible repeat (first | refine blk_drewN ?_ _ | refine blk_drew ?_ | refine blk_alloc ?_ _)); exact BK232.out) hb); have n6_ := Aside0.mk (blk_below (g := gb244) (o := .cells #[.int .i64 t238, .slice Ao24 t239.length co24, .int .i64 t242] 35 (0, 0)) (by (with_reducible repeat (first | refine blk_drewN ?_ _ | refine blk_drew ?_ | refine blk_alloc ?_ _)); exact BK244.out) hb); have n7_ := Aside0.mk (blk_below (g := gb252) (o := .cells #[.int .i64 t245, .slice Ao32 t246.length co32, .int .i64 t249] 35 (0, 0)) (by (with_reducible repeat (first | refine blk_drewN ?_ _ | refine blk_drew ?_ | refine blk_alloc ?_ _)); exact BK252.out) hb); have n8_ := Aside0.mk (blk_below (g := gb260) (o := .cells #[.int .i64 t253, .slice Ao41 t254.length co41, .int .i64 t257] 35 (0, 0)) (by (with_reducible repeat (first | refine blk_drewN ?_ _ | refine blk_drew ?_ | refine blk_alloc ?_ _)); exact BK260.out) hb); have n9_ := Aside0.mk (blk_below (g := gb268) (o := .cells #[.int .i64 t261, .slice Ao50 t262.length co50, .int .i64 t265] 35 (0, 0)) (by (with_reducible repeat (first | refine blk_drewN ?_ _ | refine blk_drew ?_ | refine blk_alloc ?_ _)); exact BK268.out) hb); have n10_ := Aside0.mk (blk_below (g := gb269) (o := .cells #[.int .i64 0, .slice none 0 0, .int .i64 0] 35 (0, 0)) (by (with_reducible repeat (first | refine blk_drewN ?_ _ | refine blk_drew ?_ | refine blk_alloc ?_ _)); exact BK269.out) hb); have n11_ := Aside0.mk (below_step (by repeat (first | (with_reducible first | exact HB.out | apply below_alloc | apply pw_below_drewN | apply below_drew1 | refine below_set ?_ GE232.out | refine below_set ?_ GE244.out | refine below_set ?_ GE252.out | refine below_set ?_ GE260.out | refine below_set ?_ GE268.out | refine below_set ?_ GE269.out) | exact HB.out)) hb); clear HO_233001; clear HO_245001; clear HO_253001; clear HO_261001; clear HO_269001; clear BK232; clear BK244; clear BK252; clear BK260; clear BK268; clear BK269; clear HB; have HO_233001 := n0_; have HO_245001 := n1_; have HO_253001 := n2_; have HO_261001 := n3_; have HO_269001 := n4_; have BK232 := n5_; have BK244 := n6_; have BK252 := n7_; have BK260 := n8_; have BK268 := n9_; have BK269 := n10_; have HB := n11_; clear n0_ n1_ n2_ n3_ n4_ n5_ n6_ n7_ n8_ n9_ n10_ n11_; (try clear hb); (try clear hb2); (try clear hk); (try clear hi)))
                  go_ret
                  exact ⟨by first | rfl | (simp [errW_none, errW_some] <;> rfl) | (simp only [← hji5]; first | rfl | (simp [errW_none, errW_some] <;> rfl)) | (simp [*, errW_none, errW_some] <;> rfl), by repeat (first | (with_reducible first | exact HB.out | apply below_alloc | apply pw_below_drewN | apply below_drew1 | refine below_set ?_ GE232.out | refine below_set ?_ GE244.out | refine below_set ?_ GE252.out | refine below_set ?_ GE260.out | refine below_set ?_ GE268.out | refine below_set ?_ GE269.out) | exact HB.out)⟩
end Go.Proofs.Ytnkkedkkjmehpaa.PQu
