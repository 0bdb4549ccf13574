-- Laid by a program of this session out of the translation; Lean checks it.
import Derived.Test.YtnkkedkkjmehpaaPQux0
import Derived.Test.YtnkkedkkjmehpaaPQux1
import Derived.Test.YtnkkedkkjmehpaaPQux3
import Derived.Test.YtnkkedkkjmehpaaEQu
import Derived.Test.YtnkkedkkjmehpaaPQuy0
import Derived.Test.YtnkkedkkjmehpaaPQuyT
namespace Go.Proofs.Ytnkkedkkjmehpaa.PQu
open Go.RowKit Go.Proofs.Ytnkkedkkjmehpaa.EQu Go.Proofs.YtnkkedkkjmehpaaW.PrintWords Go.Proofs.YtnkkedkkjmehpaaW.PrintLast Go.Proofs.YtnkkedkkjmehpaaW.PrintMore
attribute [local go_sem] max2_int min2_int max_two min_two max_three min_three max_four min_four   -- for this text's walks alone
set_option linter.unusedVariables false
set_option linter.unusedSimpArgs false

open Kd
set_option maxHeartbeats 40000000 in
set_option maxRecDepth 100000 in
theorem footwaylaw09_QueueTells.partC {zs : ByteArray} (k : Nat)
  (a0 a1_0 : Int)
  (A1_1 : Option Addr)
  (c1_1 : Nat)
  (l1_1 : List ByteArray)
  (a1_2 : Int)
  (a2 : ByteArray)
  (r : Bool)
  (w : World)
  (hu35 : Program.underlying Try.prog 35 = some (TypeDesc.struct #[{ name := "Cap", type := 3, offset := 0, embedded := false, tag := "", pkgPath := "", byteOffset := 0 }, { name := "Items", type := 33, offset := 1, embedded := false, tag := "", pkgPath := "", byteOffset := 8 }, { name := "Lost", type := 3, offset := 2, embedded := false, tag := "", pkgPath := "", byteOffset := 32 }]))
  (HR1_1 : Aside0 (Kd.C Kd.string w A1_1 (List.length l1_1) l1_1))
  (HC1_1 : Aside0 (List.length l1_1 ≤ c1_1))
  (t233 : Int)
  (t234 : List ByteArray)
  (t237 : Int)
  (A4 : Aside0 (footwaylaw09_few.f k a1_0 l1_1 a1_2 = some (t233, t234, t237)))
  (ji5 : Int)
  (hji5 : mn (↑(ByteArray.size a2) : Int) (130 : Int) = ji5)
  (hji5h : ji5 ≤ (130 : Int))
  (hji5l hji5m : (0 : Int) ≤ ji5)
  (hji5_ : (if (130 : Int) < (↑(ByteArray.size a2) : Int) then (130 : Int) else (↑(ByteArray.size a2) : Int)) = ji5)
  (c6b0 : ((0 : Int) ≤ ji5) = True)
  (c6b1 : decide ((0 : Int) ≤ ji5) = true)
  (c7b0 : (ji5 ≤ (↑(ByteArray.size a2) : Int)) = True)
  (c7b1 : decide (ji5 ≤ (↑(ByteArray.size a2) : Int)) = true)
  (t238 : Int)
  (t239 : List ByteArray)
  (t242 t243 : Int)
  (A8 : Aside0 (queue_New.f a0 = some (t238, t239, t242, t243)))
  (t245 : Int)
  (t246 : List ByteArray)
  (t249 : Int)
  (t250 : Bool)
  (t251 : Int)
  (A9 : Aside0 (queue_Push.f k t233 t234 t237 zs = some (t245, t246, t249, t250, t251)))
  (t253 : Int)
  (t254 : List ByteArray)
  (t257 : Int)
  (t258 : ByteArray)
  (t259 : Int)
  (A10 : Aside0 (queue_Pop.f t233 t234 t237 = some (t253, t254, t257, t258, t259)))
  (t261 : Int)
  (t262 : List ByteArray)
  (t265 t266 t267 : Int)
  (A11 : Aside0 (queue_Clear.f t233 t234 t237 = some (t261, t262, t265, t266, t267)))
  (gb232 : Nat)
  (w13 : World)
  (GW232 GE232 : Aside0 (Array.size w.heap ≤ gb232))
  (w14 : World)
  (w15 : World)
  (Ao17 : Option Addr)
  (co17 : Nat)
  (hs16 : World.cell? w15 { block := gb232, off := 0 } = some (Value.int IntKind.i64 a1_0))
  (hfs16 : World.frozen? w15 { block := gb232, off := 0 } = false)
  (hs18 : World.cell? w15 { block := gb232, off := 1 } = some (Value.slice A1_1 (List.length l1_1) c1_1))
  (hfs18 : World.frozen? w15 { block := gb232, off := 1 } = false)
  (hs19 : World.cell? w15 { block := gb232, off := 2 } = some (Value.int IntKind.i64 a1_2))
  (hfs19 : World.frozen? w15 { block := gb232, off := 2 } = false)
  (w20 : World)
  (gb244 : Nat)
  (w21 : World)
  (GW244 GE244 : Aside0 (Array.size w.heap ≤ gb244))
  (NB232_244 : Aside0 (gb232 ≠ gb244))
  (NB244_232 : Aside0 (gb244 ≠ gb232))
  (hnb22 : gb244 ≠ gb232)
  (hnc22 : gb232 ≠ gb244)
  (Ao24 : Option Addr)
  (co24 : Nat)
  (w25 w27 : World)
  (gb252 : Nat)
  (w28 : World)
  (GW252 GE252 : Aside0 (Array.size w.heap ≤ gb252))
  (NB232_252 : Aside0 (gb232 ≠ gb252))
  (NB252_232 : Aside0 (gb252 ≠ gb232))
  (NB244_252 : Aside0 (gb244 ≠ gb252))
  (NB252_244 : Aside0 (gb252 ≠ gb244))
  (hnb29 : gb252 ≠ gb232)
  (hnc29 : gb232 ≠ gb252)
  (hnb30 : gb252 ≠ gb244)
  (hnc30 : gb244 ≠ gb252)
  (Ao32 : Option Addr)
  (co32 : Nat)
  (w33 w35 : World)
  (gb260 : Nat)
  (w36 : World)
  (GW260 GE260 : Aside0 (Array.size w.heap ≤ gb260))
  (NB232_260 : Aside0 (gb232 ≠ gb260))
  (NB260_232 : Aside0 (gb260 ≠ gb232))
  (NB244_260 : Aside0 (gb244 ≠ gb260))
  (NB260_244 : Aside0 (gb260 ≠ gb244))
  (NB252_260 : Aside0 (gb252 ≠ gb260))
  (NB260_252 : Aside0 (gb260 ≠ gb252))
  (hnb37 : gb260 ≠ gb232)
  (hnc37 : gb232 ≠ gb260)
  (hnb38 : gb260 ≠ gb244)
  (hnc38 : gb244 ≠ gb260)
  (hnb39 : gb260 ≠ gb252)
  (hnc39 : gb252 ≠ gb260)
  (Ao41 : Option Addr)
  (co41 : Nat)
  (w43 : World)
  (gb268 : Nat)
  (w44 : World)
  (GW268 GE268 : Aside0 (Array.size w.heap ≤ gb268))
  (NB232_268 : Aside0 (gb232 ≠ gb268))
  (NB268_232 : Aside0 (gb268 ≠ gb232))
  (NB244_268 : Aside0 (gb244 ≠ gb268))
  (NB268_244 : Aside0 (gb268 ≠ gb244))
  (NB252_268 : Aside0 (gb252 ≠ gb268))
  (NB268_252 : Aside0 (gb268 ≠ gb252))
  (NB260_268 : Aside0 (gb260 ≠ gb268))
  (NB268_260 : Aside0 (gb268 ≠ gb260))
  (hnb45 : gb268 ≠ gb232)
  (hnc45 : gb232 ≠ gb268)
  (hnb46 : gb268 ≠ gb244)
  (hnc46 : gb244 ≠ gb268)
  (hnb47 : gb268 ≠ gb252)
  (hnc47 : gb252 ≠ gb268)
  (hnb48 : gb268 ≠ gb260)
  (hnc48 : gb260 ≠ gb268)
  (Ao50 : Option Addr)
  (co50 gb269 : Nat)
  (w51 : World)
  (HO236 : Aside0 (Kd.R Kd.string 9 w51 (Array.size w.heap) (fun x => some x ≠ Value.ownBlock (Value.slice Ao24 (List.length t239) co24) ∧ some x ≠ Value.ownBlock (Value.slice Ao50 (List.length t262) co50)) (Value.slice Ao17 (List.length t234) co17) t234))
  (HO241 : Aside0 (Kd.R Kd.string 9 w51 (Array.size w.heap) (fun x => some x ≠ Value.ownBlock (Value.slice Ao17 (List.length t234) co17) ∧ some x ≠ Value.ownBlock (Value.slice Ao50 (List.length t262) co50)) (Value.slice Ao24 (List.length t239) co24) t239))
  (HO248 : Aside0 (Kd.V Kd.string 9 w51 (Array.size w.heap) (fun k => ((((some k ≠ Value.ownBlock (Value.slice Ao24 (List.length t239) co24) ∧ k ≠ gb232 ∧ k ≠ gb244 ∧ k ≠ gb252) ∧ k ≠ gb260) ∧ some k ≠ Value.ownBlock (Value.slice Ao50 (List.length t262) co50)) ∧ k ≠ gb268) ∧ k ≠ gb269) (Value.slice Ao32 (List.length t246) co32) t246))
  (HO256 : Aside0 (Kd.V Kd.string 9 w51 (Array.size w.heap) (fun k => ((((some k ≠ Value.ownBlock (Value.slice Ao24 (List.length t239) co24) ∧ k ≠ gb232 ∧ k ≠ gb244 ∧ k ≠ gb252) ∧ k ≠ gb260) ∧ some k ≠ Value.ownBlock (Value.slice Ao50 (List.length t262) co50)) ∧ k ≠ gb268) ∧ k ≠ gb269) (Value.slice Ao41 (List.length t254) co41) t254))
  (HO264 : Aside0 (Kd.R Kd.string 9 w51 (Array.size w.heap) (fun x => (True ∧ some x ≠ Value.ownBlock (Value.slice Ao17 (List.length t234) co17)) ∧ some x ≠ Value.ownBlock (Value.slice Ao24 (List.length t239) co24)) (Value.slice Ao50 (List.length t262) co50) t262))
  (GW269 GE269 : Aside0 (Array.size w.heap ≤ gb269))
  (NB232_269 : Aside0 (gb232 ≠ gb269))
  (NB269_232 : Aside0 (gb269 ≠ gb232))
  (NB244_269 : Aside0 (gb244 ≠ gb269))
  (NB269_244 : Aside0 (gb269 ≠ gb244))
  (NB252_269 : Aside0 (gb252 ≠ gb269))
  (NB269_252 : Aside0 (gb269 ≠ gb252))
  (NB260_269 : Aside0 (gb260 ≠ gb269))
  (NB269_260 : Aside0 (gb269 ≠ gb260))
  (NB268_269 : Aside0 (gb268 ≠ gb269))
  (NB269_268 : Aside0 (gb269 ≠ gb268))
  (hnb52 : gb269 ≠ gb232)
  (hnc52 : gb232 ≠ gb269)
  (hnb53 : gb269 ≠ gb244)
  (hnc53 : gb244 ≠ gb269)
  (hnb54 : gb269 ≠ gb252)
  (hnc54 : gb252 ≠ gb269)
  (hnb55 : gb269 ≠ gb260)
  (hnc55 : gb260 ≠ gb269)
  (hnb56 : gb269 ≠ gb268)
  (hnc56 : gb268 ≠ gb269)
  (kj11 : Nat)
  (HJ11 : Aside0 (kj11 + 1 ≤ k))
  (x69_71 : Bool)
  (kj71 : Nat)
  (HJ71 : Aside0 (kj71 + 1 ≤ kj11))
  (u6 u144 : Value)
  (kj73 : Nat)
  (HJ73 : Aside0 (kj73 + 1 ≤ kj71))
  (A120 : Aside0 (footwayref09_Right.f kj73 t233 t234 t237 = some true))
  (t279 : Int)
  (t280 : List ByteArray)
  (t283 t284 : Int)
  (A122 : Aside0 (footwayref09_Clear.f t233 t234 t237 = some (t279, t280, t283, t284)))
  (hnb124 : gb232 ≠ gb244)
  (hnc124 : gb244 ≠ gb232)
  (hnb125 : gb232 ≠ gb252)
  (hnc125 : gb252 ≠ gb232)
  (hnb126 : gb232 ≠ gb260)
  (hnc126 : gb260 ≠ gb232)
  (hnb127 : gb232 ≠ gb268)
  (hnc127 : gb268 ≠ gb232)
  (hnb128 : gb232 ≠ gb269)
  (hnc128 : gb269 ≠ gb232)
  (w130 w132 : World)
  (gb285 : Nat)
  (w133 : World)
  (GW285 GE285 : Aside0 (Array.size w.heap ≤ gb285))
  (NB232_285 : Aside0 (gb232 ≠ gb285))
  (NB285_232 : Aside0 (gb285 ≠ gb232))
  (NB244_285 : Aside0 (gb244 ≠ gb285))
  (NB285_244 : Aside0 (gb285 ≠ gb244))
  (NB252_285 : Aside0 (gb252 ≠ gb285))
  (NB285_252 : Aside0 (gb285 ≠ gb252))
  (NB260_285 : Aside0 (gb260 ≠ gb285))
  (NB285_260 : Aside0 (gb285 ≠ gb260))
  (NB268_285 : Aside0 (gb268 ≠ gb285))
  (NB285_268 : Aside0 (gb285 ≠ gb268))
  (NB269_285 : Aside0 (gb269 ≠ gb285))
  (NB285_269 : Aside0 (gb285 ≠ gb269))
  (hnb134 : gb285 ≠ gb232)
  (hnc134 : gb232 ≠ gb285)
  (hnb135 : gb285 ≠ gb244)
  (hnc135 : gb244 ≠ gb285)
  (hnb136 : gb285 ≠ gb252)
  (hnc136 : gb252 ≠ gb285)
  (hnb137 : gb285 ≠ gb260)
  (hnc137 : gb260 ≠ gb285)
  (hnb138 : gb285 ≠ gb268)
  (hnc138 : gb268 ≠ gb285)
  (hnb139 : gb285 ≠ gb269)
  (hnc139 : gb269 ≠ gb285)
  (Ao141 : Option Addr)
  (co141 : Nat)
  (HO282 : Aside0 (Kd.R Kd.string 9 w133 (Array.size w.heap) (fun k => ((True ∧ some k ≠ Value.ownBlock (Value.slice Ao17 (List.length t234) co17)) ∧ some k ≠ Value.ownBlock (Value.slice Ao24 (List.length t239) co24)) ∧ some k ≠ Value.ownBlock (Value.slice Ao50 (List.length t262) co50)) (Value.slice Ao141 (List.length t280) co141) t280))
  (K1 : Act → World → Prop)
  (hK1 : ∀ (a_ : Act) (w_ : World), Code.wp Try.prog (Code.seq (Code.seq (Code.region 19 #[⟨some 145, .fieldAddr 35 (.tmp 4) 1, 0, "law.go:52", #[], none⟩, ⟨some 146, .load 33 (.tmp 145), 33, "law.go:52", #[⟨0, .data⟩], none⟩, ⟨some 147, .call { callee := .builtin Builtin.len, args := #[.tmp 146], argTypes := #[33] }, 3, "law.go:52", #[⟨1, .data⟩], none⟩, ⟨some 148, .binOp BinOp.eql 3 (.tmp 147) (.const (Value.int IntKind.i64 (0 : Int))) 3, 4, "law.go:52", #[⟨2, .data⟩], none⟩] false) (Code.cond (.tmp 148) (Code.seq (Code.region 20 #[⟨some 149, .move (.tmp 14), 26, "law.go:53", #[], none⟩, ⟨some 150, .binOp BinOp.neq 26 (.tmp 149) (.const (Value.int IntKind.i64 (4 : Int))) 26, 4, "law.go:53", #[⟨0, .data⟩], none⟩, ⟨some 151, .move (.tmp 150), 4, "law.go:53", #[⟨1, .data⟩], none⟩, ⟨some 152, .move (.tmp 13), 9, "law.go:53", #[⟨2, .guard⟩], some (2, false)⟩, ⟨some 153, .binOp BinOp.neq 9 (.tmp 152) (.const (Value.string { data := #[] })) 9, 4, "law.go:53", #[⟨3, .data⟩, ⟨2, .guard⟩], some (2, false)⟩, ⟨some 154, .pick (.tmp 151) (.const (Value.bool true)) (.tmp 153), 4, "law.go:53", #[⟨2, .data⟩, ⟨4, .data⟩], none⟩, ⟨some 155, .move (.tmp 154), 4, "law.go:53", #[⟨5, .data⟩, ⟨2, .chain⟩], none⟩, ⟨some 156, .load 35 (.tmp 12), 35, "law.go:53", #[⟨6, .guard⟩], some (6, false)⟩, ⟨some 157, .load 35 (.tmp 18), 35, "law.go:53", #[⟨6, .guard⟩], some (6, false)⟩, ⟨some 158, .call { callee := .value (.func 28), args := #[.tmp 156, .tmp 157], argTypes := #[35, 35] }, 4, "law.go:53", #[⟨7, .data⟩, ⟨8, .data⟩, ⟨6, .chain⟩, ⟨6, .guard⟩], some (6, false)⟩, ⟨some 159, .unOp UnOp.not 4 (.tmp 158), 4, "law.go:53", #[⟨9, .data⟩, ⟨6, .guard⟩], some (6, false)⟩, ⟨some 160, .pick (.tmp 155) (.const (Value.bool true)) (.tmp 159), 4, "law.go:53", #[⟨6, .data⟩, ⟨10, .data⟩], none⟩] false) (Code.cond (.tmp 160) (Code.seq (Code.region 21 #[⟨some 6, .assign (.const (Value.bool false)), 4, "law.go:54", #[], none⟩] false) Code.ret) Code.skip)) (Code.seq (Code.region 22 #[⟨some 161, .move (.tmp 14), 26, "law.go:56", #[], none⟩, ⟨some 162, .binOp BinOp.neq 26 (.tmp 161) (.const (Value.int IntKind.i64 (0 : Int))) 26, 4, "law.go:56", #[⟨0, .data⟩], none⟩, ⟨some 163, .move (.tmp 162), 4, "law.go:56", #[⟨1, .data⟩], none⟩, ⟨some 164, .move (.tmp 13), 9, "law.go:56", #[⟨2, .guard⟩], some (2, false)⟩, ⟨some 165, .fieldAddr 35 (.tmp 4) 1, 0, "law.go:56", #[⟨2, .guard⟩], some (2, false)⟩, ⟨some 166, .load 33 (.tmp 165), 33, "law.go:56", #[⟨4, .data⟩, ⟨2, .guard⟩], some (2, false)⟩, ⟨some 167, .indexAddr 33 (.tmp 166) (.const (Value.int IntKind.i64 (0 : Int))), 0, "law.go:56", #[⟨5, .data⟩, ⟨2, .guard⟩], some (2, false)⟩, ⟨some 168, .load 9 (.tmp 167), 9, "law.go:56", #[⟨6, .data⟩, ⟨2, .guard⟩], some (2, false)⟩, ⟨some 169, .binOp BinOp.neq 9 (.tmp 164) (.tmp 168) 9, 4, "law.go:56", #[⟨3, .data⟩, ⟨7, .data⟩, ⟨2, .guard⟩], some (2, false)⟩, ⟨some 170, .pick (.tmp 163) (.const (Value.bool true)) (.tmp 169), 4, "law.go:56", #[⟨2, .data⟩, ⟨8, .data⟩], none⟩, ⟨some 171, .move (.tmp 170), 4, "law.go:56", #[⟨9, .data⟩, ⟨2, .chain⟩], none⟩, ⟨some 172, .load 35 (.tmp 12), 35, "law.go:56", #[⟨10, .guard⟩], some (10, false)⟩, ⟨some 173, .fieldAddr 35 (.tmp 4) 0, 0, "law.go:56", #[⟨10, .guard⟩], some (10, false)⟩, ⟨some 174, .load 3 (.tmp 173), 3, "law.go:56", #[⟨12, .data⟩, ⟨10, .guard⟩], some (10, false)⟩, ⟨some 175, .fieldAddr 35 (.tmp 4) 1, 0, "law.go:56", #[⟨10, .guard⟩], some (10, false)⟩, ⟨some 176, .load 33 (.tmp 175), 33, "law.go:56", #[⟨14, .data⟩, ⟨10, .guard⟩], some (10, false)⟩, ⟨some 177, .slice 33 (.tmp 176) (some (.const (Value.int IntKind.i64 (1 : Int)))) none none, 33, "law.go:56", #[⟨15, .data⟩, ⟨10, .guard⟩], some (10, false)⟩, ⟨some 178, .fieldAddr 35 (.tmp 4) 2, 0, "law.go:56", #[⟨10, .guard⟩], some (10, false)⟩, ⟨some 179, .load 3 (.tmp 178), 3, "law.go:56", #[⟨17, .data⟩, ⟨10, .guard⟩], some (10, false)⟩, ⟨some 180, .build 35 #[(0, .tmp 174), (1, .tmp 177), (2, .tmp 179)], 35, "law.go:56", #[⟨13, .data⟩, ⟨16, .data⟩, ⟨18, .data⟩, ⟨10, .guard⟩], some (10, false)⟩, ⟨some 181, .call { callee := .value (.func 28), args := #[.tmp 172, .tmp 180], argTypes := #[35, 35] }, 4, "law.go:56", #[⟨11, .data⟩, ⟨19, .data⟩, ⟨10, .chain⟩, ⟨10, .guard⟩], some (10, false)⟩, ⟨some 182, .unOp UnOp.not 4 (.tmp 181), 4, "law.go:56", #[⟨20, .data⟩, ⟨10, .guard⟩], some (10, false)⟩, ⟨some 183, .pick (.tmp 171) (.const (Value.bool true)) (.tmp 182), 4, "law.go:56", #[⟨10, .data⟩, ⟨21, .data⟩], none⟩] true) (Code.cond (.tmp 183) (Code.seq (Code.region 23 #[⟨some 6, .assign (.const (Value.bool false)), 4, "law.go:57", #[], none⟩] false) Code.ret) Code.skip)))) (Code.seq (Code.seq (Code.region 24 #[⟨some 184, .move (.tmp 2), 9, "law.go:59", #[], none⟩, ⟨some 185, .call { callee := .builtin Builtin.len, args := #[.tmp 184], argTypes := #[9] }, 3, "law.go:59", #[⟨0, .data⟩], none⟩, ⟨some 186, .binOp BinOp.gtr 3 (.tmp 185) (.const (Value.int IntKind.i64 (114 : Int))) 3, 4, "law.go:59", #[⟨1, .data⟩], none⟩] false) (Code.cond (.tmp 186) (Code.seq (Code.region 25 #[⟨some 187, .move (.tmp 11), 26, "law.go:60", #[], none⟩, ⟨some 188, .binOp BinOp.eql 26 (.tmp 187) (.const (Value.int IntKind.i64 (1 : Int))) 26, 4, "law.go:60", #[⟨0, .data⟩], none⟩, ⟨some 189, .move (.tmp 188), 4, "law.go:60", #[⟨1, .data⟩], none⟩, ⟨some 190, .move (.tmp 10), 4, "law.go:60", #[⟨2, .guard⟩], some (2, true)⟩, ⟨some 191, .unOp UnOp.not 4 (.tmp 190), 4, "law.go:60", #[⟨3, .data⟩, ⟨2, .guard⟩], some (2, true)⟩, ⟨some 192, .pick (.tmp 189) (.tmp 191) (.const (Value.bool false)), 4, "law.go:60", #[⟨2, .data⟩, ⟨4, .data⟩], none⟩, ⟨some 193, .move (.tmp 192), 4, "law.go:60", #[⟨5, .data⟩, ⟨2, .chain⟩], none⟩, ⟨some 194, .load 35 (.tmp 9), 35, "law.go:60", #[⟨6, .guard⟩], some (6, true)⟩, ⟨some 195, .load 35 (.tmp 18), 35, "law.go:60", #[⟨6, .guard⟩], some (6, true)⟩, ⟨some 196, .call { callee := .value (.func 28), args := #[.tmp 194, .tmp 195], argTypes := #[35, 35] }, 4, "law.go:60", #[⟨7, .data⟩, ⟨8, .data⟩, ⟨6, .chain⟩, ⟨6, .guard⟩], some (6, true)⟩, ⟨some 197, .pick (.tmp 193) (.tmp 196) (.const (Value.bool false)), 4, "law.go:60", #[⟨6, .data⟩, ⟨9, .data⟩], none⟩, ⟨some 6, .assign (.tmp 197), 4, "law.go:60", #[⟨10, .data⟩, ⟨9, .chain⟩, ⟨0, .phase⟩, ⟨1, .phase⟩, ⟨2, .phase⟩, ⟨3, .phase⟩, ⟨4, .phase⟩, ⟨5, .phase⟩, ⟨6, .phase⟩, ⟨7, .phase⟩, ⟨8, .phase⟩, ⟨9, .phase⟩, ⟨10, .phase⟩], none⟩] false) Code.ret) Code.skip)) (Code.seq (Code.region 26 #[⟨some 199, .load 35 (.tmp 4), 35, "law.go:62", #[], none⟩, ⟨some 200, .move (.tmp 2), 9, "law.go:62", #[], none⟩, ⟨some 201, .call { callee := .value (.func 30), args := #[.tmp 199, .tmp 200], argTypes := #[35, 9] }, 49, "law.go:62", #[⟨0, .data⟩, ⟨1, .data⟩], none⟩, ⟨some 198, .move (.tmp 201), 49, "law.go:62", #[⟨2, .data⟩], none⟩, ⟨some 202, .extract (.tmp 198) 0, 35, "law.go:62", #[⟨3, .data⟩], none⟩, ⟨some 203, .extract (.tmp 198) 1, 4, "law.go:62", #[⟨3, .data⟩, ⟨7, .gcOnly .lateStores⟩], none⟩, ⟨some 21, .alloc 35, 0, "law.go:62", #[], none⟩, ⟨none, .store 35 (.tmp 21) (.tmp 202), 0, "law.go:62", #[⟨6, .data⟩, ⟨4, .data⟩, ⟨2, .chain⟩, ⟨0, .phase⟩, ⟨1, .phase⟩, ⟨2, .phase⟩, ⟨3, .phase⟩, ⟨4, .phase⟩, ⟨5, .textOnly .lateStores⟩, ⟨6, .phase⟩], none⟩, ⟨some 22, .assign (.tmp 203), 4, "law.go:62", #[⟨5, .data⟩, ⟨7, .chain⟩, ⟨0, .phase⟩, ⟨1, .phase⟩, ⟨2, .phase⟩, ⟨3, .phase⟩, ⟨4, .phase⟩, ⟨5, .phase⟩, ⟨6, .phase⟩, ⟨7, .phase⟩], none⟩] false) (Code.seq (Code.region 27 #[⟨some 204, .move (.tmp 11), 26, "law.go:63", #[], none⟩, ⟨some 205, .binOp BinOp.eql 26 (.tmp 204) (.const (Value.int IntKind.i64 (0 : Int))) 26, 4, "law.go:63", #[⟨0, .data⟩], none⟩, ⟨some 206, .move (.tmp 205), 4, "law.go:63", #[⟨1, .data⟩], none⟩, ⟨some 207, .move (.tmp 10), 4, "law.go:63", #[⟨2, .guard⟩], some (2, true)⟩, ⟨some 208, .move (.tmp 22), 4, "law.go:63", #[⟨2, .guard⟩], some (2, true)⟩, ⟨some 209, .binOp BinOp.eql 4 (.tmp 207) (.tmp 208) 4, 4, "law.go:63", #[⟨3, .data⟩, ⟨4, .data⟩, ⟨2, .guard⟩], some (2, true)⟩, ⟨some 210, .pick (.tmp 206) (.tmp 209) (.const (Value.bool false)), 4, "law.go:63", #[⟨2, .data⟩, ⟨5, .data⟩], none⟩, ⟨some 211, .move (.tmp 210), 4, "law.go:63", #[⟨6, .data⟩, ⟨2, .chain⟩], none⟩, ⟨some 212, .load 35 (.tmp 9), 35, "law.go:63", #[⟨7, .guard⟩], some (7, true)⟩, ⟨some 213, .load 35 (.tmp 21), 35, "law.go:63", #[⟨7, .guard⟩], some (7, true)⟩, ⟨some 214, .call { callee := .value (.func 28), args := #[.tmp 212, .tmp 213], argTypes := #[35, 35] }, 4, "law.go:63", #[⟨8, .data⟩, ⟨9, .data⟩, ⟨7, .chain⟩, ⟨7, .guard⟩], some (7, true)⟩, ⟨some 215, .pick (.tmp 211) (.tmp 214) (.const (Value.bool false)), 4, "law.go:63", #[⟨7, .data⟩, ⟨10, .data⟩], none⟩, ⟨some 6, .assign (.tmp 215), 4, "law.go:63", #[⟨11, .data⟩, ⟨10, .chain⟩, ⟨0, .phase⟩, ⟨1, .phase⟩, ⟨2, .phase⟩, ⟨3, .phase⟩, ⟨4, .phase⟩, ⟨5, .phase⟩, ⟨6, .phase⟩, ⟨7, .phase⟩, ⟨8, .phase⟩, ⟨9, .phase⟩, ⟨10, .phase⟩, ⟨11, .phase⟩], none⟩] false) Code.ret)))) (bodyPost Try.prog Try.f5 fun e w' => e = Ending.returned (Value.bool r) ∧ Below (Array.size w.heap) w w') a_ w_ → K1 a_ w_)
  (K0 : Act → World → Prop)
  (hK0 : ∀ (a_ : Act) (w_ : World), Code.wp Try.prog (Code.cond (.tmp 144) (Code.seq (Code.region 18 #[⟨some 6, .assign (.const (Value.bool false)), 4, "law.go:50", #[], none⟩] false) Code.ret) Code.skip) (Exit.then K1 (bodyPost Try.prog Try.f5 fun e w' => e = Ending.returned (Value.bool r) ∧ Below (Array.size w.heap) w w')) a_ w_ → K0 a_ w_)
  (wc : World)
  (u23 u24 u25 u26 u27 u28 u29 u30 u31 u32 u33 u34 u35 u36 u37 u38 u39 u40 u41 u42 u43 u44 u45 u46 u47 u48 u49 u50 u51 u52 u53 u54 u55 u56 u57 u58 u59 u60 u61 u62 u63 u64 u65 u66 u67 u68 u69 u70 u71 u72 u73 u74 u75 u76 u77 u78 u79 u80 u81 u82 u83 u84 u85 u86 u87 u88 u89 u90 u91 u92 u93 u94 u95 u96 u97 u98 u99 u100 u101 u102 u103 u104 u105 u106 u107 u108 u109 u110 u111 u112 u113 u114 u115 u116 u117 u118 u119 u120 u121 u122 u123 u124 u125 u126 u127 u128 u129 u130 u131 u132 u133 u134 u135 u136 u137 u138 u139 u140 u141 u142 u143 u145 u146 u147 u148 u149 u150 u151 u152 u153 u154 u155 u156 u157 u158 u159 u160 u161 u162 u163 u164 u165 u166 u167 u168 u169 u170 u171 u172 u173 u174 u175 u176 u177 u178 u179 u180 u181 u182 u183 u184 u185 u186 u187 u188 u189 u190 u191 u192 u193 u194 u195 u196 u197 u198 u199 u200 u201 u202 u203 u204 u205 u206 u207 u208 u209 u210 u211 u212 u213 u214 u215 : Value)
  (kq : Nat)
  (x144_122 : Bool)
  (HA : Aside0 (j3 kq zs t250 t251 t258 t259 x144_122 t233 t234 t237 t245 t246 t249 t253 t254 t257 (0 : Int) (0 : Int) = some r))
  (HJ122 : Aside0 (kq ≤ kj73))
  (HO_233001 : Aside0 (Kd.R Kd.string 9 wc (Array.size w.heap) (fun k_ => some k_ ≠ Value.ownBlock (Value.slice Ao24 (List.length t239) co24) ∧ some k_ ≠ Value.ownBlock (Value.slice Ao50 (List.length t262) co50) ∧ some k_ ≠ Value.ownBlock (Value.slice Ao141 (List.length t280) co141)) (Value.slice Ao17 (List.length t234) co17) t234))
  (HO_245001 : Aside0 (Kd.R Kd.string 9 wc (Array.size w.heap) (fun k_ => some k_ ≠ Value.ownBlock (Value.slice Ao17 (List.length t234) co17) ∧ some k_ ≠ Value.ownBlock (Value.slice Ao50 (List.length t262) co50) ∧ some k_ ≠ Value.ownBlock (Value.slice Ao141 (List.length t280) co141)) (Value.slice Ao24 (List.length t239) co24) t239))
  (HO_253001 : Aside0 (Kd.V Kd.string 9 wc (Array.size w.heap) (fun k_ => some k_ ≠ Value.ownBlock (Value.slice Ao24 (List.length t239) co24) ∧ some k_ ≠ Value.ownBlock (Value.slice Ao50 (List.length t262) co50) ∧ some k_ ≠ Value.ownBlock (Value.slice Ao141 (List.length t280) co141) ∧ k_ ≠ gb232 ∧ k_ ≠ gb244 ∧ k_ ≠ gb252 ∧ k_ ≠ gb260 ∧ k_ ≠ gb268 ∧ k_ ≠ gb269 ∧ k_ ≠ gb285) (Value.slice Ao32 (List.length t246) co32) t246))
  (HO_261001 : Aside0 (Kd.V Kd.string 9 wc (Array.size w.heap) (fun k_ => some k_ ≠ Value.ownBlock (Value.slice Ao24 (List.length t239) co24) ∧ some k_ ≠ Value.ownBlock (Value.slice Ao50 (List.length t262) co50) ∧ some k_ ≠ Value.ownBlock (Value.slice Ao141 (List.length t280) co141) ∧ k_ ≠ gb232 ∧ k_ ≠ gb244 ∧ k_ ≠ gb252 ∧ k_ ≠ gb260 ∧ k_ ≠ gb268 ∧ k_ ≠ gb269 ∧ k_ ≠ gb285) (Value.slice Ao41 (List.length t254) co41) t254))
  (HO_269001 : Aside0 (Kd.R Kd.string 9 wc (Array.size w.heap) (fun k_ => some k_ ≠ Value.ownBlock (Value.slice Ao17 (List.length t234) co17) ∧ some k_ ≠ Value.ownBlock (Value.slice Ao24 (List.length t239) co24) ∧ some k_ ≠ Value.ownBlock (Value.slice Ao141 (List.length t280) co141)) (Value.slice Ao50 (List.length t262) co50) t262))
  (HO_286001 : Aside0 (Kd.R Kd.string 9 wc (Array.size w.heap) (fun k_ => some k_ ≠ Value.ownBlock (Value.slice Ao17 (List.length t234) co17) ∧ some k_ ≠ Value.ownBlock (Value.slice Ao24 (List.length t239) co24) ∧ some k_ ≠ Value.ownBlock (Value.slice Ao50 (List.length t262) co50)) (Value.slice Ao141 (List.length t280) co141) t280))
  (BK232 : Aside0 (wc.heap[gb232]? = some (Obj.cells #[Value.int IntKind.i64 t233, Value.slice Ao17 (List.length t234) co17, Value.int IntKind.i64 t237] 35)))
  (BK244 : Aside0 (wc.heap[gb244]? = some (Obj.cells #[Value.int IntKind.i64 t238, Value.slice Ao24 (List.length t239) co24, Value.int IntKind.i64 t242] 35)))
  (BK252 : Aside0 (wc.heap[gb252]? = some (Obj.cells #[Value.int IntKind.i64 t245, Value.slice Ao32 (List.length t246) co32, Value.int IntKind.i64 t249] 35)))
  (BK260 : Aside0 (wc.heap[gb260]? = some (Obj.cells #[Value.int IntKind.i64 t253, Value.slice Ao41 (List.length t254) co41, Value.int IntKind.i64 t257] 35)))
  (BK268 : Aside0 (wc.heap[gb268]? = some (Obj.cells #[Value.int IntKind.i64 t261, Value.slice Ao50 (List.length t262) co50, Value.int IntKind.i64 t265] 35)))
  (BK269 : Aside0 (wc.heap[gb269]? = some (Obj.cells #[Value.int IntKind.i64 (0 : Int), Value.slice none 0 0, Value.int IntKind.i64 (0 : Int)] 35)))
  (BK285 : Aside0 (wc.heap[gb285]? = some (Obj.cells #[Value.int IntKind.i64 t279, Value.slice Ao141 (List.length t280) co141, Value.int IntKind.i64 t283] 35)))
  (HB : Aside0 (Below (Array.size w.heap) w wc)) :
  K0 { tmps := #[Value.int IntKind.i64 a0, Value.agg #[Value.int IntKind.i64 a1_0, Value.slice A1_1 (List.length l1_1) c1_1, Value.int IntKind.i64 a1_2], Value.string zs, undef, Value.pointer (some { block := gb232, off := 0 }), undef, u6, Value.pointer (some { block := gb244, off := 0 }), Value.int IntKind.i64 t243, Value.pointer (some { block := gb252, off := 0 }), Value.bool t250, Value.int IntKind.i64 t251, Value.pointer (some { block := gb260, off := 0 }), Value.string t258, Value.int IntKind.i64 t259, Value.pointer (some { block := gb268, off := 0 }), Value.int IntKind.i64 t266, Value.int IntKind.i64 t267, Value.pointer (some { block := gb269, off := 0 }), Value.pointer (some { block := gb285, off := 0 }), Value.int IntKind.i64 t284, undef, undef, u23, u24, u25, u26, u27, u28, u29, u30, u31, u32, u33, u34, u35, u36, u37, u38, u39, u40, u41, u42, u43, u44, u45, u46, u47, u48, u49, u50, u51, u52, u53, u54, u55, u56, u57, u58, u59, u60, u61, u62, u63, u64, u65, u66, u67, u68, u69, u70, u71, u72, u73, u74, u75, u76, u77, u78, u79, u80, u81, u82, u83, u84, u85, u86, u87, u88, u89, u90, u91, u92, u93, u94, u95, u96, u97, u98, u99, u100, u101, u102, u103, u104, u105, u106, u107, u108, u109, u110, u111, u112, u113, u114, u115, u116, u117, u118, u119, u120, u121, u122, u123, u124, u125, u126, u127, u128, u129, u130, u131, u132, u133, u134, u135, u136, u137, u138, u139, u140, u141, u142, u143, Value.bool x144_122, u145, u146, u147, u148, u149, u150, u151, u152, u153, u154, u155, u156, u157, u158, u159, u160, u161, u162, u163, u164, u165, u166, u167, u168, u169, u170, u171, u172, u173, u174, u175, u176, u177, u178, u179, u180, u181, u182, u183, u184, u185, u186, u187, u188, u189, u190, u191, u192, u193, u194, u195, u196, u197, u198, u199, u200, u201, u202, u203, u204, u205, u206, u207, u208, u209, u210, u211, u212, u213, u214, u215], defers := [] } wc := by
  cases kq with
  | zero => exact absurd HA.out (by simp [footwaylaw09_QueueTells.j3])
  | succ kj122 =>
  have H := HA.out
  clear HA
  simp only [footwaylaw09_QueueTells.j3] at H
  by_cases c159 : x144_122 = true
  ·subst c159
   have H1 : (some false) = some r := by rw [if_pos rfl] at H; exact H
   clear H
   have H := H1
   clear H1
   obtain rfl := Option.some.inj H
   go_wp2
   go_ret
   exact ⟨by first | rfl | (simp [errW_none, errW_some] <;> rfl) | (simp only [← hji5]; first | rfl | (simp [errW_none, errW_some] <;> rfl)) | (simp [*, errW_none, errW_some] <;> rfl), by repeat (first | (with_reducible first | exact HB.out | apply below_alloc | apply pw_below_drewN | apply below_drew1 | refine below_set ?_ GE232.out | refine below_set ?_ GE244.out | refine below_set ?_ GE252.out | refine below_set ?_ GE260.out | refine below_set ?_ GE268.out | refine below_set ?_ GE269.out | refine below_set ?_ GE285.out) | exact HB.out)⟩
  ·replace c159 := Bool.eq_false_iff.mpr c159
   subst c159
   have H1 : (if (t234.length : Int) = 0 then (if t259 = 4 then (if t258.toList = ([] : List UInt8) then ((footwayref09_Same.f kj122 t253 t254 t257 0 ([] : List ByteArray) 0).bind fun t287 => (if t287 = true then (footwaylaw09_QueueTells.j4 kj122 zs t250 t251 t233 t234 t237 t245 t246 t249 0 0) else (some false))) else (some false)) else (some false)) else (if t259 = 0 then (if 0 < (t234.length : Int) then (if t258.toList = (rdOf ByteArray.empty t234 0).toList then (if 1 ≤ (t234.length : Int) then ((footwayref09_Same.f kj122 t253 t254 t257 t233 (t234.drop 1) t237).bind fun t293 => (if t293 = true then (footwaylaw09_QueueTells.j4 kj122 zs t250 t251 t233 t234 t237 t245 t246 t249 0 0) else (some false))) else (none)) else (some false)) else (none)) else (some false))) = some r := by rw [if_neg (show ¬ (false = true) by decide)] at H; exact H
   clear H
   have H := H1
   clear H1
   have HC160 := Aside0.mk H
   clear H
   have hnb161 := NB232_244.out
   have hnc161 := NB244_232.out
   have hnb162 := NB232_252.out
   have hnc162 := NB252_232.out
   have hnb163 := NB232_260.out
   have hnc163 := NB260_232.out
   have hnb164 := NB232_268.out
   have hnc164 := NB268_232.out
   have hnb165 := NB232_269.out
   have hnc165 := NB269_232.out
   have hnb166 := NB232_285.out
   have hnc166 := NB285_232.out
   have hcz167_0 : wc.cell? ⟨gb232, 0, none⟩ = some (.int .i64 t233) := (blk_cell BK232.out 0).trans rfl
   have hcz167_1 : wc.cell? ⟨gb232, 1, none⟩ = some (.slice Ao17 t234.length co17) := (blk_cell BK232.out 1).trans rfl
   have hcz167_2 : wc.cell? ⟨gb232, 2, none⟩ = some (.int .i64 t237) := (blk_cell BK232.out 2).trans rfl
   have hfz167_0 := blk_frozen BK232.out 0
   have hfz167_1 := blk_frozen BK232.out 1
   have hfz167_2 := blk_frozen BK232.out 2
   go_upto_if 148 with (fail)
   go_cut [] (fun wc => ∃ (kq : Nat), Aside0 (footwaylaw09_QueueTells.j4 kq zs t250 t251 t233 t234 t237 t245 t246 t249 0 0 = some r) ∧ Aside0 (kq ≤ kj122) ∧ Aside0 (Kd.R Kd.string 9 wc w.heap.size (fun k_ => some k_ ≠ ((.slice Ao24 t239.length co24) : Value).ownBlock ∧ some k_ ≠ ((.slice Ao50 t262.length co50) : Value).ownBlock ∧ some k_ ≠ ((.slice Ao141 t280.length co141) : Value).ownBlock) (.slice Ao17 t234.length co17) t234) ∧ Aside0 (Kd.R Kd.string 9 wc w.heap.size (fun k_ => some k_ ≠ ((.slice Ao17 t234.length co17) : Value).ownBlock ∧ some k_ ≠ ((.slice Ao50 t262.length co50) : Value).ownBlock ∧ some k_ ≠ ((.slice Ao141 t280.length co141) : Value).ownBlock) (.slice Ao24 t239.length co24) t239) ∧ Aside0 (Kd.V Kd.string 9 wc w.heap.size (fun k_ => some k_ ≠ ((.slice Ao24 t239.length co24) : Value).ownBlock ∧ some k_ ≠ ((.slice Ao50 t262.length co50) : Value).ownBlock ∧ some k_ ≠ ((.slice Ao141 t280.length co141) : Value).ownBlock ∧ k_ ≠ gb232 ∧ k_ ≠ gb244 ∧ k_ ≠ gb252 ∧ k_ ≠ gb260 ∧ k_ ≠ gb268 ∧ k_ ≠ gb269 ∧ k_ ≠ gb285) (.slice Ao32 t246.length co32) t246) ∧ Aside0 (Kd.V Kd.string 9 wc w.heap.size (fun k_ => some k_ ≠ ((.slice Ao24 t239.length co24) : Value).ownBlock ∧ some k_ ≠ ((.slice Ao50 t262.length co50) : Value).ownBlock ∧ some k_ ≠ ((.slice Ao141 t280.length co141) : Value).ownBlock ∧ k_ ≠ gb232 ∧ k_ ≠ gb244 ∧ k_ ≠ gb252 ∧ k_ ≠ gb260 ∧ k_ ≠ gb268 ∧ k_ ≠ gb269 ∧ k_ ≠ gb285) (.slice Ao41 t254.length co41) t254) ∧ Aside0 (Kd.R Kd.string 9 wc w.heap.size (fun k_ => some k_ ≠ ((.slice Ao17 t234.length co17) : Value).ownBlock ∧ some k_ ≠ ((.slice Ao24 t239.length co24) : Value).ownBlock ∧ some k_ ≠ ((.slice Ao141 t280.length co141) : Value).ownBlock) (.slice Ao50 t262.length co50) t262) ∧ Aside0 (Kd.R Kd.string 9 wc w.heap.size (fun k_ => some k_ ≠ ((.slice Ao17 t234.length co17) : Value).ownBlock ∧ some k_ ≠ ((.slice Ao24 t239.length co24) : Value).ownBlock ∧ some k_ ≠ ((.slice Ao50 t262.length co50) : Value).ownBlock) (.slice Ao141 t280.length co141) t280) ∧ Aside0 (wc.heap[gb232]? = some (.cells #[.int .i64 t233, (.slice Ao17 t234.length co17), .int .i64 t237] 35 (0, 0))) ∧ Aside0 (wc.heap[gb244]? = some (.cells #[.int .i64 t238, (.slice Ao24 t239.length co24), .int .i64 t242] 35 (0, 0))) ∧ Aside0 (wc.heap[gb252]? = some (.cells #[.int .i64 t245, (.slice Ao32 t246.length co32), .int .i64 t249] 35 (0, 0))) ∧ Aside0 (wc.heap[gb260]? = some (.cells #[.int .i64 t253, (.slice Ao41 t254.length co41), .int .i64 t257] 35 (0, 0))) ∧ Aside0 (wc.heap[gb268]? = some (.cells #[.int .i64 t261, (.slice Ao50 t262.length co50), .int .i64 t265] 35 (0, 0))) ∧ Aside0 (wc.heap[gb269]? = some (.cells #[.int .i64 0, (.slice none 0 0), .int .i64 0] 35 (0, 0))) ∧ Aside0 (wc.heap[gb285]? = some (.cells #[.int .i64 t279, (.slice Ao141 t280.length co141), .int .i64 t283] 35 (0, 0))) ∧ Aside0 (Below w.heap.size w wc))
   case first =>
    have H := HC160.out
    clear HC160
    by_cases c168 : (t234.length : Int) = 0
    ·rw [if_pos c168] at H
     have c168b0 : ((t234.length : Int) == 0) = true := beq_iff_eq.mpr c168
     have c168b1 : ((t234.length : Int) != 0) = false := bne_eq_false_iff_eq.mpr c168
     clear c168
     (first | rw [c168b0] | (simp only [i64_w, i32_w]; rw [c168b0]) | skip)
     by_cases c169 : t259 = 4
     ·rw [if_pos c169] at H
      have c169b0 : (t259 == 4) = true := beq_iff_eq.mpr c169
      have c169b1 : (t259 != 4) = false := bne_eq_false_iff_eq.mpr c169
      clear c169
      by_cases c170 : t258.toList = ([] : List UInt8)
      ·rw [if_pos c170] at H
       have c170b0 : (t258.toList == ([] : List UInt8)) = true := beq_iff_eq.mpr c170
       have c170b1 : (t258.toList != ([] : List UInt8)) = false := bne_eq_false_iff_eq.mpr c170
       clear c170
       replace H := Option.bind_eq_some_iff.mp H
       obtain ⟨t287, A1710, H⟩ := H
       replace H : (if t287 = true then (footwaylaw09_QueueTells.j4 kj122 zs t250 t251 t233 t234 t237 t245 t246 t249 0 0) else (some false)) = some r := H
       have A171 := Aside0.mk A1710
       clear A1710
       by_cases c172 : t287 = true
       ·subst c172
        have H1 : (footwaylaw09_QueueTells.j4 kj122 zs t250 t251 t233 t234 t237 t245 t246 t249 0 0) = some r := by rw [if_pos rfl] at H; exact H
        clear H
        have H := H1
        clear H1
        have H' := Aside0.mk H
        clear H
        have hnb173 := NB260_232.out
        have hnc173 := NB232_260.out
        have hnb174 := NB260_244.out
        have hnc174 := NB244_260.out
        have hnb175 := NB260_252.out
        have hnc175 := NB252_260.out
        have hnb176 := NB260_268.out
        have hnc176 := NB268_260.out
        have hnb177 := NB260_269.out
        have hnc177 := NB269_260.out
        have hnb178 := NB260_285.out
        have hnc178 := NB285_260.out
        have hcz179_0 : wc.cell? ⟨gb260, 0, none⟩ = some (.int .i64 t253) := (blk_cell BK260.out 0).trans rfl
        have hcz179_1 : wc.cell? ⟨gb260, 1, none⟩ = some (.slice Ao41 t254.length co41) := (blk_cell BK260.out 1).trans rfl
        have hcz179_2 : wc.cell? ⟨gb260, 2, none⟩ = some (.int .i64 t257) := (blk_cell BK260.out 2).trans rfl
        have hfz179_0 := blk_frozen BK260.out 0
        have hfz179_1 := blk_frozen BK260.out 1
        have hfz179_2 := blk_frozen BK260.out 2
        have hnb180 := NB269_232.out
        have hnc180 := NB232_269.out
        have hnb181 := NB269_244.out
        have hnc181 := NB244_269.out
        have hnb182 := NB269_252.out
        have hnc182 := NB252_269.out
        have hnb183 := NB269_268.out
        have hnc183 := NB268_269.out
        have hnb184 := NB269_285.out
        have hnc184 := NB285_269.out
        have hcz185_0 : wc.cell? ⟨gb269, 0, none⟩ = some (.int .i64 0) := (blk_cell BK269.out 0).trans rfl
        have hcz185_1 : wc.cell? ⟨gb269, 1, none⟩ = some (.slice none 0 0) := (blk_cell BK269.out 1).trans rfl
        have hcz185_2 : wc.cell? ⟨gb269, 2, none⟩ = some (.int .i64 0) := (blk_cell BK269.out 2).trans rfl
        have hfz185_0 := blk_frozen BK269.out 0
        have hfz185_1 := blk_frozen BK269.out 1
        have hfz185_2 := blk_frozen BK269.out 2
        go_wp2_with (first | (go_at_call 28; (refine (footwayref09_Same.calls kj122 t253 _ _ t254 t257 0 _ _ ([] : List ByteArray) 0 true _ ?side1 ?side2 ?side3 ?side4 A171.out).mono ?_); (case side1 => repeat (first | exact (V_reads' HO_261001.out).2.2 | (with_reducible refine C_alloc ?_ _) | (with_reducible refine C_drewN ?_ _) | (with_reducible refine C_drew ?_))); (case side2 => exact (V_reads' HO_261001.out).2.1); (case side3 => exact C_nil _ _); (case side4 => exact Nat.le_refl _); rintro e w186 ⟨rfl, hb⟩; have n0_ := Aside0.mk (R_below (by (with_reducible repeat (first | apply R_alloc | apply R_drewN | apply R_drew)); exact HO_233001.out) hb); have n1_ := Aside0.mk (R_below (by (with_reducible repeat (first | apply R_alloc | apply R_drewN | apply R_drew)); exact HO_245001.out) hb); have n2_ := Aside0.mk (V_below (by (with_reducible repeat (first | apply V_alloc | apply V_drewN | apply V_drew)); exact HO_253001.out) hb); have n3_ := Aside0.mk (V_below (by (with_reducible repeat (first | apply V_alloc | apply V_drewN | apply V_drew)); exact HO_261001.out) hb); have n4_ := Aside0.mk (R_below (by (with_reducible repeat (first | apply R_alloc | apply R_drewN | apply R_drew)); exact HO_269001.out) hb); have n5_ := Aside0.mk (R_below (by (with_reducible repeat (first | apply R_alloc | apply R_drewN | apply R_drew)); exact HO_286001.out) hb); have n6_ := Aside0.mk (blk_below (g := gb232) (o := .cells #[.int .i64 t233, .slice Ao17 t234.length co17, .int .i64 t237] 35 (0, 0)) (by (with_reducible repeat (first | refine blk_drewN ?_ _ | refine blk_drew ?_ | refine blk_alloc ?_ _)); exact BK232.out) hb); have n7_ := Aside0.mk (blk_below (g := gb244) (o := .cells #[.int .i64 t238, .slice Ao24 t239.length co24, .int .i64 t242] 35 (0, 0)) (by (with_reducible repeat (first | refine blk_drewN ?_ _ | refine blk_drew ?_ | refine blk_alloc ?_ _)); exact BK244.out) hb); have n8_ := Aside0.mk (blk_below (g := gb252) (o := .cells #[.int .i64 t245, .slice Ao32 t246.length co32, .int .i64 t249] 35 (0, 0)) (by (with_reducible repeat (first | refine blk_drewN ?_ _ | refine blk_drew ?_ | refine blk_alloc ?_ _)); exact BK252.out) hb); have n9_ := Aside0.mk (blk_below (g := gb260) (o := .cells #[.int .i64 t253, .slice Ao41 t254.length co41, .int .i64 t257] 35 (0, 0)) (by (with_reducible repeat (first | refine blk_drewN ?_ _ | refine blk_drew ?_ | refine blk_alloc ?_ _)); exact BK260.out) hb); have n10_ := Aside0.mk (blk_below (g := gb268) (o := .cells #[.int .i64 t261, .slice Ao50 t262.length co50, .int .i64 t265] 35 (0, 0)) (by (with_reducible repeat (first | refine blk_drewN ?_ _ | refine blk_drew ?_ | refine blk_alloc ?_ _)); exact BK268.out) hb); have n11_ := Aside0.mk (blk_below (g := gb269) (o := .cells #[.int .i64 0, .slice none 0 0, .int .i64 0] 35 (0, 0)) (by (with_reducible repeat (first | refine blk_drewN ?_ _ | refine blk_drew ?_ | refine blk_alloc ?_ _)); exact BK269.out) hb); have n12_ := Aside0.mk (blk_below (g := gb285) (o := .cells #[.int .i64 t279, .slice Ao141 t280.length co141, .int .i64 t283] 35 (0, 0)) (by (with_reducible repeat (first | refine blk_drewN ?_ _ | refine blk_drew ?_ | refine blk_alloc ?_ _)); exact BK285.out) hb); have n13_ := Aside0.mk (below_step (by repeat (first | (with_reducible first | exact HB.out | apply below_alloc | apply pw_below_drewN | apply below_drew1 | refine below_set ?_ GE232.out | refine below_set ?_ GE244.out | refine below_set ?_ GE252.out | refine below_set ?_ GE260.out | refine below_set ?_ GE268.out | refine below_set ?_ GE269.out | refine below_set ?_ GE285.out) | exact HB.out)) hb); clear HO_233001; clear HO_245001; clear HO_253001; clear HO_261001; clear HO_269001; clear HO_286001; clear BK232; clear BK244; clear BK252; clear BK260; clear BK268; clear BK269; clear BK285; clear HB; have HO_233001 := n0_; have HO_245001 := n1_; have HO_253001 := n2_; have HO_261001 := n3_; have HO_269001 := n4_; have HO_286001 := n5_; have BK232 := n6_; have BK244 := n7_; have BK252 := n8_; have BK260 := n9_; have BK268 := n10_; have BK269 := n11_; have BK285 := n12_; have HB := n13_; clear n0_ n1_ n2_ n3_ n4_ n5_ n6_ n7_ n8_ n9_ n10_ n11_ n12_ n13_; (try clear hb); (try clear hb2); (try clear hk); (try clear hi)))
        go_meet
        case rel => exact ⟨_, H', ⟨by have := HJ11.out; have := HJ71.out; have := HJ73.out; have := HJ122.out; first | omega | exact Nat.le_refl _⟩, ⟨by (with_reducible repeat (first | apply R_alloc | apply R_drewN | apply R_drew)); exact HO_233001.out⟩, ⟨by (with_reducible repeat (first | apply R_alloc | apply R_drewN | apply R_drew)); exact HO_245001.out⟩, ⟨by (with_reducible repeat (first | apply V_alloc | apply V_drewN | apply V_drew)); exact HO_253001.out⟩, ⟨by (with_reducible repeat (first | apply V_alloc | apply V_drewN | apply V_drew)); exact HO_261001.out⟩, ⟨by (with_reducible repeat (first | apply R_alloc | apply R_drewN | apply R_drew)); exact HO_269001.out⟩, ⟨by (with_reducible repeat (first | apply R_alloc | apply R_drewN | apply R_drew)); exact HO_286001.out⟩, ⟨by (with_reducible repeat (first | refine blk_drewN ?_ _ | refine blk_drew ?_ | refine blk_alloc ?_ _)); exact BK232.out⟩, ⟨by (with_reducible repeat (first | refine blk_drewN ?_ _ | refine blk_drew ?_ | refine blk_alloc ?_ _)); exact BK244.out⟩, ⟨by (with_reducible repeat (first | refine blk_drewN ?_ _ | refine blk_drew ?_ | refine blk_alloc ?_ _)); exact BK252.out⟩, ⟨by (with_reducible repeat (first | refine blk_drewN ?_ _ | refine blk_drew ?_ | refine blk_alloc ?_ _)); exact BK260.out⟩, ⟨by (with_reducible repeat (first | refine blk_drewN ?_ _ | refine blk_drew ?_ | refine blk_alloc ?_ _)); exact BK268.out⟩, ⟨by (with_reducible repeat (first | refine blk_drewN ?_ _ | refine blk_drew ?_ | refine blk_alloc ?_ _)); exact BK269.out⟩, ⟨by (with_reducible repeat (first | refine blk_drewN ?_ _ | refine blk_drew ?_ | refine blk_alloc ?_ _)); exact BK285.out⟩, ⟨by repeat (first | (with_reducible first | exact HB.out | apply below_alloc | apply pw_below_drewN | apply below_drew1 | refine below_set ?_ GE232.out | refine below_set ?_ GE244.out | refine below_set ?_ GE252.out | refine below_set ?_ GE260.out | refine below_set ?_ GE268.out | refine below_set ?_ GE269.out | refine below_set ?_ GE285.out) | exact HB.out)⟩⟩
       ·replace c172 := Bool.eq_false_iff.mpr c172
        subst c172
        have H1 : (some false) = some r := by rw [if_neg (show ¬ (false = true) by decide)] at H; exact H
        clear H
        have H := H1
        clear H1
        obtain rfl := Option.some.inj H
        have hnb187 := NB260_232.out
        have hnc187 := NB232_260.out
        have hnb188 := NB260_244.out
        have hnc188 := NB244_260.out
        have hnb189 := NB260_252.out
        have hnc189 := NB252_260.out
        have hnb190 := NB260_268.out
        have hnc190 := NB268_260.out
        have hnb191 := NB260_269.out
        have hnc191 := NB269_260.out
        have hnb192 := NB260_285.out
        have hnc192 := NB285_260.out
        have hcz193_0 : wc.cell? ⟨gb260, 0, none⟩ = some (.int .i64 t253) := (blk_cell BK260.out 0).trans rfl
        have hcz193_1 : wc.cell? ⟨gb260, 1, none⟩ = some (.slice Ao41 t254.length co41) := (blk_cell BK260.out 1).trans rfl
        have hcz193_2 : wc.cell? ⟨gb260, 2, none⟩ = some (.int .i64 t257) := (blk_cell BK260.out 2).trans rfl
        have hfz193_0 := blk_frozen BK260.out 0
        have hfz193_1 := blk_frozen BK260.out 1
        have hfz193_2 := blk_frozen BK260.out 2
        have hnb194 := NB269_232.out
        have hnc194 := NB232_269.out
        have hnb195 := NB269_244.out
        have hnc195 := NB244_269.out
        have hnb196 := NB269_252.out
        have hnc196 := NB252_269.out
        have hnb197 := NB269_268.out
        have hnc197 := NB268_269.out
        have hnb198 := NB269_285.out
        have hnc198 := NB285_269.out
        have hcz199_0 : wc.cell? ⟨gb269, 0, none⟩ = some (.int .i64 0) := (blk_cell BK269.out 0).trans rfl
        have hcz199_1 : wc.cell? ⟨gb269, 1, none⟩ = some (.slice none 0 0) := (blk_cell BK269.out 1).trans rfl
        have hcz199_2 : wc.cell? ⟨gb269, 2, none⟩ = some (.int .i64 0) := (blk_cell BK269.out 2).trans rfl
        have hfz199_0 := blk_frozen BK269.out 0
        have hfz199_1 := blk_frozen BK269.out 1
        have hfz199_2 := blk_frozen BK269.out 2
        go_wp2_with (first | (go_at_call 28; (refine (footwayref09_Same.calls kj122 t253 _ _ t254 t257 0 _ _ ([] : List ByteArray) 0 false _ ?side1 ?side2 ?side3 ?side4 A171.out).mono ?_); (case side1 => repeat (first | exact (V_reads' HO_261001.out).2.2 | (with_reducible refine C_alloc ?_ _) | (with_reducible refine C_drewN ?_ _) | (with_reducible refine C_drew ?_))); (case side2 => exact (V_reads' HO_261001.out).2.1); (case side3 => exact C_nil _ _); (case side4 => exact Nat.le_refl _); rintro e w200 ⟨rfl, hb⟩; have n0_ := Aside0.mk (R_below (by (with_reducible repeat (first | apply R_alloc | apply R_drewN | apply R_drew)); exact HO_233001.out) hb); have n1_ := Aside0.mk (R_below (by (with_reducible repeat (first | apply R_alloc | apply R_drewN | apply R_drew)); exact HO_245001.out) hb); have n2_ := Aside0.mk (V_below (by (with_reducible repeat (first | apply V_alloc | apply V_drewN | apply V_drew)); exact HO_253001.out) hb); have n3_ := Aside0.mk (V_below (by (with_reducible repeat (first | apply V_alloc | apply V_drewN | apply V_drew)); exact HO_261001.out) hb); have n4_ := Aside0.mk (R_below (by (with_reducible repeat (first | apply R_alloc | apply R_drewN | apply R_drew)); exact HO_269001.out) hb); have n5_ := Aside0.mk (R_below (by (with_reducible repeat (first | apply R_alloc | apply R_drewN | apply R_drew)); exact HO_286001.out) hb); have n6_ := Aside0.mk (blk_below (g := gb232) (o := .cells #[.int .i64 t233, .slice Ao17 t234.length co17, .int .i64 t237] 35 (0, 0)) (by (with_reducible repeat (first | refine blk_drewN ?_ _ | refine blk_drew ?_ | refine blk_alloc ?_ _)); exact BK232.out) hb); have n7_ := Aside0.mk (blk_below (g := gb244) (o := .cells #[.int .i64 t238, .slice Ao24 t239.length co24, .int .i64 t242] 35 (0, 0)) (by (with_reducible repeat (first | refine blk_drewN ?_ _ | refine blk_drew ?_ | refine blk_alloc ?_ _)); exact BK244.out) hb); have n8_ := Aside0.mk (blk_below (g := gb252) (o := .cells #[.int .i64 t245, .slice Ao32 t246.length co32, .int .i64 t249] 35 (0, 0)) (by (with_reducible repeat (first | refine blk_drewN ?_ _ | refine blk_drew ?_ | refine blk_alloc ?_ _)); exact BK252.out) hb); have n9_ := Aside0.mk (blk_below (g := gb260) (o := .cells #[.int .i64 t253, .slice Ao41 t254.length co41, .int .i64 t257] 35 (0, 0)) (by (with_reducible repeat (first | refine blk_drewN ?_ _ | refine blk_drew ?_ | refine blk_alloc ?_ _)); exact BK260.out) hb); have n10_ := Aside0.mk (blk_below (g := gb268) (o := .cells #[.int .i64 t261, .slice Ao50 t262.length co50, .int .i64 t265] 35 (0, 0)) (by (with_reducible repeat (first | refine blk_drewN ?_ _ | refine blk_drew ?_ | refine blk_alloc ?_ _)); exact BK268.out) hb); have n11_ := Aside0.mk (blk_below (g := gb269) (o := .cells #[.int .i64 0, .slice none 0 0, .int .i64 0] 35 (0, 0)) (by (with_reducible repeat (first | refine blk_drewN ?_ _ | refine blk_drew ?_ | refine blk_alloc ?_ _)); exact BK269.out) hb); have n12_ := Aside0.mk (blk_below (g := gb285) (o := .cells #[.int .i64 t279, .slice Ao141 t280.length co141, .int .i64 t283] 35 (0, 0)) (by (with_reducible repeat (first | refine blk_drewN ?_ _ | refine blk_drew ?_ | refine blk_alloc ?_ _)); exact BK285.out) hb); have n13_ := Aside0.mk (below_step (by repeat (first | (with_reducible first | exact HB.out | apply below_alloc | apply pw_below_drewN | apply below_drew1 | refine below_set ?_ GE232.out | refine below_set ?_ GE244.out | refine below_set ?_ GE252.out | refine below_set ?_ GE260.out | refine below_set ?_ GE268.out | refine below_set ?_ GE269.out | refine below_set ?_ GE285.out) | exact HB.out)) hb); clear HO_233001; clear HO_245001; clear HO_253001; clear HO_261001; clear HO_269001; clear HO_286001; clear BK232; clear BK244; clear BK252; clear BK260; clear BK268; clear BK269; clear BK285; clear HB; have HO_233001 := n0_; have HO_245001 := n1_; have HO_253001 := n2_; have HO_261001 := n3_; have HO_269001 := n4_; have HO_286001 := n5_; have BK232 := n6_; have BK244 := n7_; have BK252 := n8_; have BK260 := n9_; have BK268 := n10_; have BK269 := n11_; have BK285 := n12_; have HB := n13_; clear n0_ n1_ n2_ n3_ n4_ n5_ n6_ n7_ n8_ n9_ n10_ n11_ n12_ n13_; (try clear hb); (try clear hb2); (try clear hk); (try clear hi)))
        go_ret
        exact ⟨by first | rfl | (simp [errW_none, errW_some] <;> rfl) | (simp only [← hji5]; first | rfl | (simp [errW_none, errW_some] <;> rfl)) | (simp [*, errW_none, errW_some] <;> rfl), by repeat (first | (with_reducible first | exact HB.out | apply below_alloc | apply pw_below_drewN | apply below_drew1 | refine below_set ?_ GE232.out | refine below_set ?_ GE244.out | refine below_set ?_ GE252.out | refine below_set ?_ GE260.out | refine below_set ?_ GE268.out | refine below_set ?_ GE269.out | refine below_set ?_ GE285.out) | exact HB.out)⟩
      ·rw [if_neg c170] at H
       have c170b0 : (t258.toList == ([] : List UInt8)) = false := beq_eq_false_iff_ne.mpr c170
       have c170b1 : (t258.toList != ([] : List UInt8)) = true := bne_iff_ne.mpr c170
       obtain rfl := Option.some.inj H
       go_wp2
       go_ret
       exact ⟨by first | rfl | (simp [errW_none, errW_some] <;> rfl) | (simp only [← hji5]; first | rfl | (simp [errW_none, errW_some] <;> rfl)) | (simp [*, errW_none, errW_some] <;> rfl), by repeat (first | (with_reducible first | exact HB.out | apply below_alloc | apply pw_below_drewN | apply below_drew1 | refine below_set ?_ GE232.out | refine below_set ?_ GE244.out | refine below_set ?_ GE252.out | refine below_set ?_ GE260.out | refine below_set ?_ GE268.out | refine below_set ?_ GE269.out | refine below_set ?_ GE285.out) | exact HB.out)⟩
     ·rw [if_neg c169] at H
      have c169b0 : (t259 == 4) = false := beq_eq_false_iff_ne.mpr c169
      have c169b1 : (t259 != 4) = true := bne_iff_ne.mpr c169
      obtain rfl := Option.some.inj H
      go_wp2
      go_ret
      exact ⟨by first | rfl | (simp [errW_none, errW_some] <;> rfl) | (simp only [← hji5]; first | rfl | (simp [errW_none, errW_some] <;> rfl)) | (simp [*, errW_none, errW_some] <;> rfl), by repeat (first | (with_reducible first | exact HB.out | apply below_alloc | apply pw_below_drewN | apply below_drew1 | refine below_set ?_ GE232.out | refine below_set ?_ GE244.out | refine below_set ?_ GE252.out | refine below_set ?_ GE260.out | refine below_set ?_ GE268.out | refine below_set ?_ GE269.out | refine below_set ?_ GE285.out) | exact HB.out)⟩
    ·rw [if_neg c168] at H
     have c168b0 : ((t234.length : Int) == 0) = false := beq_eq_false_iff_ne.mpr c168
     have c168b1 : ((t234.length : Int) != 0) = true := bne_iff_ne.mpr c168
     have c168b2 : ¬ (t234 = []) := fun h_ => c168 (by rw [h_]; rfl)
     (first | rw [c168b0] | (simp only [i64_w, i32_w]; rw [c168b0]) | skip)
     by_cases c201 : t259 = 0
     ·rw [if_pos c201] at H
      have c201b0 : (t259 == 0) = true := beq_iff_eq.mpr c201
      have c201b1 : (t259 != 0) = false := bne_eq_false_iff_eq.mpr c201
      clear c201
      by_cases c202 : 0 < (t234.length : Int)
      ·rw [if_pos c202] at H
       have c202b0 : decide (0 < (t234.length : Int)) = true := decide_eq_true c202
       have c202b1 : decide (0 < t234.length) = true := decide_eq_true (by omega)
       clear c202
       by_cases c203 : t258.toList = (rdOf ByteArray.empty t234 0).toList
       ·rw [if_pos c203] at H
        have c203b0 : (t258.toList == (rdOf ByteArray.empty t234 0).toList) = true := beq_iff_eq.mpr c203
        have c203b1 : (t258.toList != (rdOf ByteArray.empty t234 0).toList) = false := bne_eq_false_iff_eq.mpr c203
        clear c203
        by_cases c204 : 1 ≤ (t234.length : Int)
        ·rw [if_pos c204] at H
         have c204b0 := eq_true c204
         have c204b1 : decide (1 ≤ (t234.length : Int)) = true := decide_eq_true c204
         clear c204
         obtain ⟨y289, hy289⟩ : ∃ y_ : List ByteArray, y_ = (t234.drop 1) := ⟨_, rfl⟩
         replace H : ((footwayref09_Same.f kj122 t253 t254 t257 t233 y289 t237).bind fun t293 => (if t293 = true then (footwaylaw09_QueueTells.j4 kj122 zs t250 t251 t233 t234 t237 t245 t246 t249 0 0) else (some false))) = some r := by first | (rw [hy289]; with_reducible exact H) | (have H2_ := (Option.bind_some _ _).symm.trans H; rw [hy289]; with_reducible exact H2_) | (have H2_ := (Option.bind_some _ _).symm.trans H; with_reducible exact H2_) | with_reducible exact H | (rw [hy289]; exact H) | exact H
         have Ny289 := Aside0.mk hy289
         clear hy289
         replace H := Option.bind_eq_some_iff.mp H
         obtain ⟨t293, A2050, H⟩ := H
         replace H : (if t293 = true then (footwaylaw09_QueueTells.j4 kj122 zs t250 t251 t233 t234 t237 t245 t246 t249 0 0) else (some false)) = some r := H
         have A205 := Aside0.mk A2050
         clear A2050
         by_cases c206 : t293 = true
         ·subst c206
          have H1 : (footwaylaw09_QueueTells.j4 kj122 zs t250 t251 t233 t234 t237 t245 t246 t249 0 0) = some r := by rw [if_pos rfl] at H; exact H
          clear H
          have H := H1
          clear H1
          have H' := Aside0.mk H
          clear H
          try go_wp2
          have n0_ := Aside0.mk (R_drew HO_233001.out)
          have n1_ := Aside0.mk (R_drew HO_245001.out)
          have n2_ := Aside0.mk (V_drew HO_253001.out)
          have n3_ := Aside0.mk (V_drew HO_261001.out)
          have n4_ := Aside0.mk (R_drew HO_269001.out)
          have n5_ := Aside0.mk (R_drew HO_286001.out)
          have n6_ := Aside0.mk (blk_drew BK232.out)
          have n7_ := Aside0.mk (blk_drew BK244.out)
          have n8_ := Aside0.mk (blk_drew BK252.out)
          have n9_ := Aside0.mk (blk_drew BK260.out)
          have n10_ := Aside0.mk (blk_drew BK268.out)
          have n11_ := Aside0.mk (blk_drew BK269.out)
          have n12_ := Aside0.mk (blk_drew BK285.out)
          have n13_ := Aside0.mk (below_drew1 HB.out)
          clear HO_233001
          clear HO_245001
          clear HO_253001
          clear HO_261001
          clear HO_269001
          clear HO_286001
          clear BK232
          clear BK244
          clear BK252
          clear BK260
          clear BK268
          clear BK269
          clear BK285
          clear HB
          have HO_233001 := n0_
          have HO_245001 := n1_
          have HO_253001 := n2_
          have HO_261001 := n3_
          have HO_269001 := n4_
          have HO_286001 := n5_
          have BK232 := n6_
          have BK244 := n7_
          have BK252 := n8_
          have BK260 := n9_
          have BK268 := n10_
          have BK269 := n11_
          have BK285 := n12_
          have HB := n13_
          clear n0_ n1_ n2_ n3_ n4_ n5_ n6_ n7_ n8_ n9_ n10_ n11_ n12_ n13_
          have p288 : 0 ≤ (0 : Int) := (by omega)
          have q288 : 0 < (t234.length : Int) := of_decide_eq_true (by first | (with_reducible assumption) | assumption)
          obtain ⟨ad288, e288, hx288_0⟩ := Kd.at_string (R_reads' HO_233001.out).2.2 0 p288 q288
          cases e288
          have qi288 : (0 < t234.length) = True := eq_true (by omega)
          (try rw [show ((0 : Int)).toNat = 0 from rfl] at hx288_0)
          (try rw [Addr.add_zero'] at hx288_0)
          replace p288 := eq_true p288
          replace q288 := eq_true q288
          have q208 : (1 : Int) ≤ ((t234.length : Int) : Int) := of_decide_eq_true (by first | (with_reducible assumption) | assumption)
          obtain ⟨i0208, hi0208, _, hsz208, _⟩ := info_parts info9
          have hroom208 : t234.length ≤ co17 := (R_reads' HO_233001.out).2.1
          have hC208 : Kd.C Kd.string _ (some ad288) t234.length t234 := (R_reads' HO_233001.out).2.2
          have hcut208 := cut_from (P := Try.prog) 33 9 .i64 Try.underlying33 hi0208 1 hsz208 (some ad288) t234.length co17 1 (by omega) q208
          have hr208 := C_drop (m := (1 : Int).toNat) (c := co17) hC208 (by omega) hroom208
          obtain ⟨A208, hA208⟩ : ∃ A1, A1 = (if co17 = (1 : Int).toNat then (some ad288) else ((some ad288) : Option Addr).map (·.add ((1 : Int).toNat * 1))) := ⟨_, rfl⟩
          obtain ⟨c208, hc208⟩ : ∃ c1, c1 = co17 - (1 : Int).toNat := ⟨_, rfl⟩
          have hy208 : y289.length = t234.length - (1 : Int).toNat := (by rw [Ny289.out, List.length_drop] <;> omega)
          rw [show (t234).drop (1 : Int).toNat = y289 from Ny289.out.symm] at hr208
          replace hr208 : Kd.C Kd.string _ A208 y289.length y289 := (by rw [hA208]; exact hr208)
          rw [← hy208, ← hA208, ← hc208] at hcut208
          have HR292 := Aside0.mk hr208
          have HC292 := Aside0.mk (show y289.length ≤ c208 from by rw [hy208, hc208]; exact Nat.sub_le_sub_right hroom208 _)
          clear hr208 hC208 hroom208 hi0208 hsz208 hc208
          have KY208 := Aside0.mk hy208
          have KA208 := Aside0.mk hA208
          clear hy208 hA208
          have KL208 := Aside0.mk (show 1 ≤ t234.length from by omega)
          replace q208 := eq_true q208
          refine start_ (n := 23) (S := fun w' => w'.cell? ⟨gb232, 0, none⟩ = some (.int .i64 t233) ∧ w'.cell? ⟨gb232, 1, none⟩ = some (.slice (some ad288) t234.length co17) ∧ w'.cell? ⟨gb232, 2, none⟩ = some (.int .i64 t237) ∧ w'.cell? ⟨gb260, 0, none⟩ = some (.int .i64 t253) ∧ w'.cell? ⟨gb260, 1, none⟩ = some (.slice Ao41 t254.length co41) ∧ w'.cell? ⟨gb260, 2, none⟩ = some (.int .i64 t257) ∧ w'.cell? ad288 = some (.string (rdOf ByteArray.empty t234 0))) (ds := []) #[false, false, false, false, false, false, false, false, false, false, false, false, false, false, false, false, false, false, false, false, false, false, false] (by kernel_rfl) rfl rfl ⟨(blk_cell BK232.out 0).trans rfl, (blk_cell BK232.out 1).trans rfl, (blk_cell BK232.out 2).trans rfl, (blk_cell BK260.out 0).trans rfl, (blk_cell BK260.out 1).trans rfl, (blk_cell BK260.out 2).trans rfl, hx288_0⟩ (fun hHeld => ?_); refine with_tabW footwaylaw09_QueueTells.tab22 footwaylaw09_QueueTells.bits22 (fun HT_ HW_ => ?_)
          generalize wc.drew = w207 at HO_233001 HO_245001 HO_253001 HO_261001 HO_269001 HO_286001 BK232 BK244 BK252 BK260 BK268 BK269 BK285 HB HR292 hx288_0 hHeld ⊢
          refine pure_ (i := 0) (N := some 161) (v := ?_) (a' := ?_) #[true, false, false, false, false, false, false, false, false, false, false, false, false, false, false, false, false, false, false, false, false, false, false] rfl rfl (any_of HT_.out (by kernel_rfl)) (fun _ _ _ h => h) (Or.inl ⟨by rfl, ?_⟩) ?_ ?_
          rotate_left
          ·intro w'
           go_simp
           with_reducible rfl
          rotate_left
          ·simp only [Act.put, List.setIfInBounds_toArray, List.set_cons_zero, List.set_cons_succ, i64_w, i32_w]
           rfl
          refine pure_ (i := 1) (N := some 162) (v := ?_) (a' := ?_) #[true, true, false, false, false, false, false, false, false, false, false, false, false, false, false, false, false, false, false, false, false, false, false] rfl rfl (any_of HT_.out (by kernel_rfl)) (fun _ _ _ h => h) (Or.inl ⟨by rfl, ?_⟩) ?_ ?_
          rotate_left
          ·intro w'
           go_simp
           with_reducible rfl
          rotate_left
          ·simp only [Act.put, List.setIfInBounds_toArray, List.set_cons_zero, List.set_cons_succ, i64_w, i32_w]
           rfl
          refine pure_ (i := 2) (N := some 163) (v := ?_) (a' := ?_) #[true, true, true, false, false, false, false, false, false, false, false, false, false, false, false, false, false, false, false, false, false, false, false] rfl rfl (any_of HT_.out (by kernel_rfl)) (fun _ _ _ h => h) (Or.inl ⟨by rfl, ?_⟩) ?_ ?_
          rotate_left
          ·intro w'
           go_simp
           with_reducible rfl
          rotate_left
          ·simp only [Act.put, List.setIfInBounds_toArray, List.set_cons_zero, List.set_cons_succ, i64_w, i32_w]
           rfl
          refine pure_ (i := 3) (N := some 164) (v := ?_) (a' := ?_) #[true, true, true, true, false, false, false, false, false, false, false, false, false, false, false, false, false, false, false, false, false, false, false] rfl rfl (any_of HT_.out (by kernel_rfl)) (fun _ _ _ h => h) (Or.inl ⟨by rfl, ?_⟩) ?_ ?_
          rotate_left
          ·intro w'
           go_simp
           with_reducible rfl
          rotate_left
          ·simp only [Act.put, List.setIfInBounds_toArray, List.set_cons_zero, List.set_cons_succ, i64_w, i32_w]
           rfl
          refine pure_ (i := 4) (N := some 165) (v := ?_) (a' := ?_) #[true, true, true, true, true, false, false, false, false, false, false, false, false, false, false, false, false, false, false, false, false, false, false] rfl rfl (any_of HT_.out (by kernel_rfl)) (fun _ _ _ h => h) (Or.inl ⟨by rfl, ?_⟩) ?_ ?_
          rotate_left
          ·intro w'
           go_simp
           with_reducible rfl
          rotate_left
          ·simp only [Act.put, List.setIfInBounds_toArray, List.set_cons_zero, List.set_cons_succ, i64_w, i32_w]
           rfl
          refine take_ (i := 5) (N := some 166) (v := ?_) (a' := ?_) #[true, true, true, true, true, true, false, false, false, false, false, false, false, false, false, false, false, false, false, false, false, false, false] rfl rfl (take_ofW HT_.out HW_.out (by kernel_rfl)) (fun _ _ _ h => h) (Or.inl ⟨by rfl, ?_⟩) hHeld ?_ ?_
          rotate_left
          ·rintro w' ⟨s0, s1, s2, s3, s4, s5, s6⟩
           go_simp
           with_reducible rfl
          rotate_left
          ·simp only [Act.put, List.setIfInBounds_toArray, List.set_cons_zero, List.set_cons_succ, i64_w, i32_w]
           rfl
          refine pure_ (i := 6) (N := some 167) (v := ?_) (a' := ?_) #[true, true, true, true, true, true, true, false, false, false, false, false, false, false, false, false, false, false, false, false, false, false, false] rfl rfl (any_of HT_.out (by kernel_rfl)) (fun _ _ _ h => h) (Or.inl ⟨by rfl, ?_⟩) ?_ ?_
          rotate_left
          ·intro w'
           go_simp
           with_reducible rfl
          rotate_left
          ·simp only [Act.put, List.setIfInBounds_toArray, List.set_cons_zero, List.set_cons_succ, i64_w, i32_w]
           rfl
          refine take_ (i := 7) (N := some 168) (v := ?_) (a' := ?_) #[true, true, true, true, true, true, true, true, false, false, false, false, false, false, false, false, false, false, false, false, false, false, false] rfl rfl (take_ofW HT_.out HW_.out (by kernel_rfl)) (fun _ _ _ h => h) (Or.inl ⟨by rfl, ?_⟩) hHeld ?_ ?_
          rotate_left
          ·rintro w' ⟨s0, s1, s2, s3, s4, s5, s6⟩
           go_simp
           with_reducible rfl
          rotate_left
          ·simp only [Act.put, List.setIfInBounds_toArray, List.set_cons_zero, List.set_cons_succ, i64_w, i32_w]
           rfl
          refine pure_ (i := 8) (N := some 169) (v := ?_) (a' := ?_) #[true, true, true, true, true, true, true, true, true, false, false, false, false, false, false, false, false, false, false, false, false, false, false] rfl rfl (any_of HT_.out (by kernel_rfl)) (fun _ _ _ h => h) (Or.inl ⟨by rfl, ?_⟩) ?_ ?_
          rotate_left
          ·intro w'
           go_simp
           with_reducible rfl
          rotate_left
          ·simp only [Act.put, List.setIfInBounds_toArray, List.set_cons_zero, List.set_cons_succ, i64_w, i32_w]
           rfl
          refine pure_ (i := 9) (N := some 170) (v := ?_) (a' := ?_) #[true, true, true, true, true, true, true, true, true, true, false, false, false, false, false, false, false, false, false, false, false, false, false] rfl rfl (any_of HT_.out (by kernel_rfl)) (fun _ _ _ h => h) (Or.inl ⟨by rfl, ?_⟩) ?_ ?_
          rotate_left
          ·intro w'
           go_simp
           with_reducible rfl
          rotate_left
          ·simp only [Act.put, List.setIfInBounds_toArray, List.set_cons_zero, List.set_cons_succ, i64_w, i32_w]
           rfl
          refine pure_ (i := 10) (N := some 171) (v := ?_) (a' := ?_) #[true, true, true, true, true, true, true, true, true, true, true, false, false, false, false, false, false, false, false, false, false, false, false] rfl rfl (any_of HT_.out (by kernel_rfl)) (fun _ _ _ h => h) (Or.inl ⟨by rfl, ?_⟩) ?_ ?_
          rotate_left
          ·intro w'
           go_simp
           with_reducible rfl
          rotate_left
          ·simp only [Act.put, List.setIfInBounds_toArray, List.set_cons_zero, List.set_cons_succ, i64_w, i32_w]
           rfl
          refine pure_ (i := 12) (N := some 173) (v := ?_) (a' := ?_) #[true, true, true, true, true, true, true, true, true, true, true, false, true, false, false, false, false, false, false, false, false, false, false] rfl rfl (any_of HT_.out (by kernel_rfl)) (fun _ _ _ h => h) (Or.inl ⟨by rfl, ?_⟩) ?_ ?_
          rotate_left
          ·intro w'
           go_simp
           with_reducible rfl
          rotate_left
          ·simp only [Act.put, List.setIfInBounds_toArray, List.set_cons_zero, List.set_cons_succ, i64_w, i32_w]
           rfl
          refine pure_ (i := 14) (N := some 175) (v := ?_) (a' := ?_) #[true, true, true, true, true, true, true, true, true, true, true, false, true, false, true, false, false, false, false, false, false, false, false] rfl rfl (any_of HT_.out (by kernel_rfl)) (fun _ _ _ h => h) (Or.inl ⟨by rfl, ?_⟩) ?_ ?_
          rotate_left
          ·intro w'
           go_simp
           with_reducible rfl
          rotate_left
          ·simp only [Act.put, List.setIfInBounds_toArray, List.set_cons_zero, List.set_cons_succ, i64_w, i32_w]
           rfl
          refine pure_ (i := 17) (N := some 178) (v := ?_) (a' := ?_) #[true, true, true, true, true, true, true, true, true, true, true, false, true, false, true, false, false, true, false, false, false, false, false] rfl rfl (any_of HT_.out (by kernel_rfl)) (fun _ _ _ h => h) (Or.inl ⟨by rfl, ?_⟩) ?_ ?_
          rotate_left
          ·intro w'
           go_simp
           with_reducible rfl
          rotate_left
          ·simp only [Act.put, List.setIfInBounds_toArray, List.set_cons_zero, List.set_cons_succ, i64_w, i32_w]
           rfl
          refine take_ (i := 11) (N := some 172) (v := ?_) (a' := ?_) #[true, true, true, true, true, true, true, true, true, true, true, true, true, false, true, false, false, true, false, false, false, false, false] rfl rfl (take_ofW HT_.out HW_.out (by kernel_rfl)) (fun _ _ _ h => h) (Or.inl ⟨by rfl, ?_⟩) hHeld ?_ ?_
          rotate_left
          ·rintro w' ⟨s0, s1, s2, s3, s4, s5, s6⟩
           go_simp
           with_reducible rfl
          rotate_left
          ·simp only [Act.put, List.setIfInBounds_toArray, List.set_cons_zero, List.set_cons_succ, i64_w, i32_w]
           rfl
          refine take_ (i := 13) (N := some 174) (v := ?_) (a' := ?_) #[true, true, true, true, true, true, true, true, true, true, true, true, true, true, true, false, false, true, false, false, false, false, false] rfl rfl (take_ofW HT_.out HW_.out (by kernel_rfl)) (fun _ _ _ h => h) (Or.inl ⟨by rfl, ?_⟩) hHeld ?_ ?_
          rotate_left
          ·rintro w' ⟨s0, s1, s2, s3, s4, s5, s6⟩
           go_simp
           with_reducible rfl
          rotate_left
          ·simp only [Act.put, List.setIfInBounds_toArray, List.set_cons_zero, List.set_cons_succ, i64_w, i32_w]
           rfl
          refine take_ (i := 15) (N := some 176) (v := ?_) (a' := ?_) #[true, true, true, true, true, true, true, true, true, true, true, true, true, true, true, true, false, true, false, false, false, false, false] rfl rfl (take_ofW HT_.out HW_.out (by kernel_rfl)) (fun _ _ _ h => h) (Or.inl ⟨by rfl, ?_⟩) hHeld ?_ ?_
          rotate_left
          ·rintro w' ⟨s0, s1, s2, s3, s4, s5, s6⟩
           go_simp
           with_reducible rfl
          rotate_left
          ·simp only [Act.put, List.setIfInBounds_toArray, List.set_cons_zero, List.set_cons_succ, i64_w, i32_w]
           rfl
          refine pure_ (i := 16) (N := some 177) (v := ?_) (a' := ?_) #[true, true, true, true, true, true, true, true, true, true, true, true, true, true, true, true, true, true, false, false, false, false, false] rfl rfl (any_of HT_.out (by kernel_rfl)) (fun _ _ _ h => h) (Or.inl ⟨by rfl, ?_⟩) ?_ ?_
          rotate_left
          ·intro w'
           go_simp
           with_reducible rfl
          rotate_left
          ·simp only [Act.put, List.setIfInBounds_toArray, List.set_cons_zero, List.set_cons_succ, i64_w, i32_w]
           rfl
          refine take_ (i := 18) (N := some 179) (v := ?_) (a' := ?_) #[true, true, true, true, true, true, true, true, true, true, true, true, true, true, true, true, true, true, true, false, false, false, false] rfl rfl (take_ofW HT_.out HW_.out (by kernel_rfl)) (fun _ _ _ h => h) (Or.inl ⟨by rfl, ?_⟩) hHeld ?_ ?_
          rotate_left
          ·rintro w' ⟨s0, s1, s2, s3, s4, s5, s6⟩
           go_simp
           with_reducible rfl
          rotate_left
          ·simp only [Act.put, List.setIfInBounds_toArray, List.set_cons_zero, List.set_cons_succ, i64_w, i32_w]
           rfl
          refine pure_ (i := 19) (N := some 180) (v := ?_) (a' := ?_) #[true, true, true, true, true, true, true, true, true, true, true, true, true, true, true, true, true, true, true, true, false, false, false] rfl rfl (any_of HT_.out (by kernel_rfl)) (fun _ _ _ h => h) (Or.inl ⟨by rfl, ?_⟩) ?_ ?_
          rotate_left
          ·intro w'
           go_simp
           with_reducible rfl
          rotate_left
          ·simp only [Act.put, List.setIfInBounds_toArray, List.set_cons_zero, List.set_cons_succ, i64_w, i32_w]
           rfl
          refine one_ (i := 20) (N := some 181) #[true, true, true, true, true, true, true, true, true, true, true, true, true, true, true, true, true, true, true, true, true, false, false] rfl rfl (one_of HT_.out (by kernel_rfl)) (by decide) (fun K hK => ?_)
          refine goes_ Try.func28 (by kernel_rfl) rfl #[.agg #[.int .i64 t253, .slice Ao41 t254.length co41, .int .i64 t257], .agg #[.int .i64 t233, .slice A208 y289.length c208, .int .i64 t237]] (by rfl) rfl rfl (by (try simp only [List.map_toArray, List.map_cons, List.map_nil]); first | done | rfl | (simp only [List.length_drop, List.length_take]; rfl)) ?_
          with_reducible refine (footwayref09_Same.calls kj122 t253 _ _ t254 t257 t233 _ _ y289 t237 true _ ?side1 ?side2 ?side3 ?side4 A205.out).mono ?_
          (case side1 => repeat (first | exact (V_reads' HO_261001.out).2.2 | (with_reducible refine C_alloc ?_ _) | (with_reducible refine C_drewN ?_ _) | (with_reducible refine C_drew ?_)))
          (case side2 => exact (V_reads' HO_261001.out).2.1)
          (case side3 => repeat (first | exact (by repeat (first | (with_reducible exact HR292.out) | (with_reducible refine C_alloc ?_ _) | (with_reducible refine C_drewN ?_ _) | (with_reducible refine C_drew ?_) | exact HR292.out)) | (with_reducible refine C_alloc ?_ _) | (with_reducible refine C_drewN ?_ _) | (with_reducible refine C_drew ?_)))
          (case side4 => exact HC292.out)
          rintro e w209 ⟨rfl, hb⟩
          have HS6_ := (hb.cell (World.block_lt_of_cell? _ _ (hHeld.2.2.2.2.2.2))).trans (hHeld.2.2.2.2.2.2)
          refine ⟨_, rfl, ?_⟩
          have n0_ := Aside0.mk (R_below (by (with_reducible repeat (first | apply R_alloc | apply R_drewN | apply R_drew)); exact HO_233001.out) hb)
          have n1_ := Aside0.mk (R_below (by (with_reducible repeat (first | apply R_alloc | apply R_drewN | apply R_drew)); exact HO_245001.out) hb)
          have n2_ := Aside0.mk (V_below (by (with_reducible repeat (first | apply V_alloc | apply V_drewN | apply V_drew)); exact HO_253001.out) hb)
          have n3_ := Aside0.mk (V_below (by (with_reducible repeat (first | apply V_alloc | apply V_drewN | apply V_drew)); exact HO_261001.out) hb)
          have n4_ := Aside0.mk (R_below (by (with_reducible repeat (first | apply R_alloc | apply R_drewN | apply R_drew)); exact HO_269001.out) hb)
          have n5_ := Aside0.mk (R_below (by (with_reducible repeat (first | apply R_alloc | apply R_drewN | apply R_drew)); exact HO_286001.out) hb)
          have n6_ := Aside0.mk (blk_below (g := gb232) (o := .cells #[.int .i64 t233, .slice (some ad288) t234.length co17, .int .i64 t237] 35 (0, 0)) (by (with_reducible repeat (first | refine blk_drewN ?_ _ | refine blk_drew ?_ | refine blk_alloc ?_ _)); exact BK232.out) hb)
          have n7_ := Aside0.mk (blk_below (g := gb244) (o := .cells #[.int .i64 t238, .slice Ao24 t239.length co24, .int .i64 t242] 35 (0, 0)) (by (with_reducible repeat (first | refine blk_drewN ?_ _ | refine blk_drew ?_ | refine blk_alloc ?_ _)); exact BK244.out) hb)
          have n8_ := Aside0.mk (blk_below (g := gb252) (o := .cells #[.int .i64 t245, .slice Ao32 t246.length co32, .int .i64 t249] 35 (0, 0)) (by (with_reducible repeat (first | refine blk_drewN ?_ _ | refine blk_drew ?_ | refine blk_alloc ?_ _)); exact BK252.out) hb)
          have n9_ := Aside0.mk (blk_below (g := gb260) (o := .cells #[.int .i64 t253, .slice Ao41 t254.length co41, .int .i64 t257] 35 (0, 0)) (by (with_reducible repeat (first | refine blk_drewN ?_ _ | refine blk_drew ?_ | refine blk_alloc ?_ _)); exact BK260.out) hb)
          have n10_ := Aside0.mk (blk_below (g := gb268) (o := .cells #[.int .i64 t261, .slice Ao50 t262.length co50, .int .i64 t265] 35 (0, 0)) (by (with_reducible repeat (first | refine blk_drewN ?_ _ | refine blk_drew ?_ | refine blk_alloc ?_ _)); exact BK268.out) hb)
          have n11_ := Aside0.mk (blk_below (g := gb269) (o := .cells #[.int .i64 0, .slice none 0 0, .int .i64 0] 35 (0, 0)) (by (with_reducible repeat (first | refine blk_drewN ?_ _ | refine blk_drew ?_ | refine blk_alloc ?_ _)); exact BK269.out) hb)
          have n12_ := Aside0.mk (blk_below (g := gb285) (o := .cells #[.int .i64 t279, .slice Ao141 t280.length co141, .int .i64 t283] 35 (0, 0)) (by (with_reducible repeat (first | refine blk_drewN ?_ _ | refine blk_drew ?_ | refine blk_alloc ?_ _)); exact BK285.out) hb)
          have n13_ := Aside0.mk (C_below (by repeat (first | (with_reducible exact HR292.out) | (with_reducible refine C_alloc ?_ _) | (with_reducible refine C_drewN ?_ _) | (with_reducible refine C_drew ?_) | exact HR292.out)) hb)
          have n14_ := Aside0.mk (below_step (by repeat (first | (with_reducible first | exact HB.out | apply below_alloc | apply pw_below_drewN | apply below_drew1 | refine below_set ?_ GE232.out | refine below_set ?_ GE244.out | refine below_set ?_ GE252.out | refine below_set ?_ GE260.out | refine below_set ?_ GE268.out | refine below_set ?_ GE269.out | refine below_set ?_ GE285.out) | exact HB.out)) hb)
          clear HO_233001
          clear HO_245001
          clear HO_253001
          clear HO_261001
          clear HO_269001
          clear HO_286001
          clear BK232
          clear BK244
          clear BK252
          clear BK260
          clear BK268
          clear BK269
          clear BK285
          clear HR292
          clear HB
          have HO_233001 := n0_
          have HO_245001 := n1_
          have HO_253001 := n2_
          have HO_261001 := n3_
          have HO_269001 := n4_
          have HO_286001 := n5_
          have BK232 := n6_
          have BK244 := n7_
          have BK252 := n8_
          have BK260 := n9_
          have BK268 := n10_
          have BK269 := n11_
          have BK285 := n12_
          have HR292 := n13_
          have HB := n14_
          clear n0_ n1_ n2_ n3_ n4_ n5_ n6_ n7_ n8_ n9_ n10_ n11_ n12_ n13_ n14_
          (try clear hb)
          (try clear hb2)
          (try clear hk)
          (try clear hi)
          refine hK.out _ _ ⟨(blk_cell BK232.out 0).trans rfl, (blk_cell BK232.out 1).trans rfl, (blk_cell BK232.out 2).trans rfl, (blk_cell BK260.out 0).trans rfl, (blk_cell BK260.out 1).trans rfl, (blk_cell BK260.out 2).trans rfl, HS6_⟩ (fun hHeld => ?_)
          clear hK K
          refine norm_ (a' := ?_) ?_ ?_
          rotate_left
          ·show Act.put _ (some 181) _ = _
           simp only [Act.put, List.setIfInBounds_toArray, List.set_cons_zero, List.set_cons_succ, i64_w, i32_w]
           rfl
          refine pure_ (i := 21) (N := some 182) (v := ?_) (a' := ?_) #[true, true, true, true, true, true, true, true, true, true, true, true, true, true, true, true, true, true, true, true, true, true, false] rfl rfl (any_of HT_.out (by kernel_rfl)) (fun _ _ _ h => h) (Or.inl ⟨by rfl, ?_⟩) ?_ ?_
          rotate_left
          ·intro w'
           go_simp
           with_reducible rfl
          rotate_left
          ·simp only [Act.put, List.setIfInBounds_toArray, List.set_cons_zero, List.set_cons_succ, i64_w, i32_w]
           rfl
          refine pure_ (i := 22) (N := some 183) (v := ?_) (a' := ?_) #[true, true, true, true, true, true, true, true, true, true, true, true, true, true, true, true, true, true, true, true, true, true, true] rfl rfl (any_of HT_.out (by kernel_rfl)) (fun _ _ _ h => h) (Or.inl ⟨by rfl, ?_⟩) ?_ ?_
          rotate_left
          ·intro w'
           go_simp
           with_reducible rfl
          rotate_left
          ·simp only [Act.put, List.setIfInBounds_toArray, List.set_cons_zero, List.set_cons_succ, i64_w, i32_w]
           rfl
          refine done_ (done_of HT_.out (by kernel_rfl)) ?_
          try go_wp2
          go_meet
          case rel => exact ⟨_, H', ⟨by have := HJ11.out; have := HJ71.out; have := HJ73.out; have := HJ122.out; first | omega | exact Nat.le_refl _⟩, ⟨by (with_reducible repeat (first | apply R_alloc | apply R_drewN | apply R_drew)); exact HO_233001.out⟩, ⟨by (with_reducible repeat (first | apply R_alloc | apply R_drewN | apply R_drew)); exact HO_245001.out⟩, ⟨by (with_reducible repeat (first | apply V_alloc | apply V_drewN | apply V_drew)); exact HO_253001.out⟩, ⟨by (with_reducible repeat (first | apply V_alloc | apply V_drewN | apply V_drew)); exact HO_261001.out⟩, ⟨by (with_reducible repeat (first | apply R_alloc | apply R_drewN | apply R_drew)); exact HO_269001.out⟩, ⟨by (with_reducible repeat (first | apply R_alloc | apply R_drewN | apply R_drew)); exact HO_286001.out⟩, ⟨by (with_reducible repeat (first | refine blk_drewN ?_ _ | refine blk_drew ?_ | refine blk_alloc ?_ _)); exact BK232.out⟩, ⟨by (with_reducible repeat (first | refine blk_drewN ?_ _ | refine blk_drew ?_ | refine blk_alloc ?_ _)); exact BK244.out⟩, ⟨by (with_reducible repeat (first | refine blk_drewN ?_ _ | refine blk_drew ?_ | refine blk_alloc ?_ _)); exact BK252.out⟩, ⟨by (with_reducible repeat (first | refine blk_drewN ?_ _ | refine blk_drew ?_ | refine blk_alloc ?_ _)); exact BK260.out⟩, ⟨by (with_reducible repeat (first | refine blk_drewN ?_ _ | refine blk_drew ?_ | refine blk_alloc ?_ _)); exact BK268.out⟩, ⟨by (with_reducible repeat (first | refine blk_drewN ?_ _ | refine blk_drew ?_ | refine blk_alloc ?_ _)); exact BK269.out⟩, ⟨by (with_reducible repeat (first | refine blk_drewN ?_ _ | refine blk_drew ?_ | refine blk_alloc ?_ _)); exact BK285.out⟩, ⟨by repeat (first | (with_reducible first | exact HB.out | apply below_alloc | apply pw_below_drewN | apply below_drew1 | refine below_set ?_ GE232.out | refine below_set ?_ GE244.out | refine below_set ?_ GE252.out | refine below_set ?_ GE260.out | refine below_set ?_ GE268.out | refine below_set ?_ GE269.out | refine below_set ?_ GE285.out) | exact HB.out)⟩⟩
         ·replace c206 := Bool.eq_false_iff.mpr c206
          subst c206
          have H1 : (some false) = some r := by rw [if_neg (show ¬ (false = true) by decide)] at H; exact H
          clear H
          have H := H1
          clear H1
          obtain rfl := Option.some.inj H
          try go_wp2
          have n0_ := Aside0.mk (R_drew HO_233001.out)
          have n1_ := Aside0.mk (R_drew HO_245001.out)
          have n2_ := Aside0.mk (V_drew HO_253001.out)
          have n3_ := Aside0.mk (V_drew HO_261001.out)
          have n4_ := Aside0.mk (R_drew HO_269001.out)
          have n5_ := Aside0.mk (R_drew HO_286001.out)
          have n6_ := Aside0.mk (blk_drew BK232.out)
          have n7_ := Aside0.mk (blk_drew BK244.out)
          have n8_ := Aside0.mk (blk_drew BK252.out)
          have n9_ := Aside0.mk (blk_drew BK260.out)
          have n10_ := Aside0.mk (blk_drew BK268.out)
          have n11_ := Aside0.mk (blk_drew BK269.out)
          have n12_ := Aside0.mk (blk_drew BK285.out)
          have n13_ := Aside0.mk (below_drew1 HB.out)
          clear HO_233001
          clear HO_245001
          clear HO_253001
          clear HO_261001
          clear HO_269001
          clear HO_286001
          clear BK232
          clear BK244
          clear BK252
          clear BK260
          clear BK268
          clear BK269
          clear BK285
          clear HB
          have HO_233001 := n0_
          have HO_245001 := n1_
          have HO_253001 := n2_
          have HO_261001 := n3_
          have HO_269001 := n4_
          have HO_286001 := n5_
          have BK232 := n6_
          have BK244 := n7_
          have BK252 := n8_
          have BK260 := n9_
          have BK268 := n10_
          have BK269 := n11_
          have BK285 := n12_
          have HB := n13_
          clear n0_ n1_ n2_ n3_ n4_ n5_ n6_ n7_ n8_ n9_ n10_ n11_ n12_ n13_
          have p288 : 0 ≤ (0 : Int) := (by omega)
          have q288 : 0 < (t234.length : Int) := of_decide_eq_true (by first | (with_reducible assumption) | assumption)
          obtain ⟨ad288, e288, hx288_0⟩ := Kd.at_string (R_reads' HO_233001.out).2.2 0 p288 q288
          cases e288
          have qi288 : (0 < t234.length) = True := eq_true (by omega)
          (try rw [show ((0 : Int)).toNat = 0 from rfl] at hx288_0)
          (try rw [Addr.add_zero'] at hx288_0)
          replace p288 := eq_true p288
          replace q288 := eq_true q288
          have q211 : (1 : Int) ≤ ((t234.length : Int) : Int) := of_decide_eq_true (by first | (with_reducible assumption) | assumption)
          obtain ⟨i0211, hi0211, _, hsz211, _⟩ := info_parts info9
          have hroom211 : t234.length ≤ co17 := (R_reads' HO_233001.out).2.1
          have hC211 : Kd.C Kd.string _ (some ad288) t234.length t234 := (R_reads' HO_233001.out).2.2
          have hcut211 := cut_from (P := Try.prog) 33 9 .i64 Try.underlying33 hi0211 1 hsz211 (some ad288) t234.length co17 1 (by omega) q211
          have hr211 := C_drop (m := (1 : Int).toNat) (c := co17) hC211 (by omega) hroom211
          obtain ⟨A211, hA211⟩ : ∃ A1, A1 = (if co17 = (1 : Int).toNat then (some ad288) else ((some ad288) : Option Addr).map (·.add ((1 : Int).toNat * 1))) := ⟨_, rfl⟩
          obtain ⟨c211, hc211⟩ : ∃ c1, c1 = co17 - (1 : Int).toNat := ⟨_, rfl⟩
          have hy211 : y289.length = t234.length - (1 : Int).toNat := (by rw [Ny289.out, List.length_drop] <;> omega)
          rw [show (t234).drop (1 : Int).toNat = y289 from Ny289.out.symm] at hr211
          replace hr211 : Kd.C Kd.string _ A211 y289.length y289 := (by rw [hA211]; exact hr211)
          rw [← hy211, ← hA211, ← hc211] at hcut211
          have HR292 := Aside0.mk hr211
          have HC292 := Aside0.mk (show y289.length ≤ c211 from by rw [hy211, hc211]; exact Nat.sub_le_sub_right hroom211 _)
          clear hr211 hC211 hroom211 hi0211 hsz211 hc211
          have KY211 := Aside0.mk hy211
          have KA211 := Aside0.mk hA211
          clear hy211 hA211
          have KL211 := Aside0.mk (show 1 ≤ t234.length from by omega)
          replace q211 := eq_true q211
          refine start_ (n := 23) (S := fun w' => w'.cell? ⟨gb232, 0, none⟩ = some (.int .i64 t233) ∧ w'.cell? ⟨gb232, 1, none⟩ = some (.slice (some ad288) t234.length co17) ∧ w'.cell? ⟨gb232, 2, none⟩ = some (.int .i64 t237) ∧ w'.cell? ⟨gb260, 0, none⟩ = some (.int .i64 t253) ∧ w'.cell? ⟨gb260, 1, none⟩ = some (.slice Ao41 t254.length co41) ∧ w'.cell? ⟨gb260, 2, none⟩ = some (.int .i64 t257) ∧ w'.cell? ad288 = some (.string (rdOf ByteArray.empty t234 0))) (ds := []) #[false, false, false, false, false, false, false, false, false, false, false, false, false, false, false, false, false, false, false, false, false, false, false] (by kernel_rfl) rfl rfl ⟨(blk_cell BK232.out 0).trans rfl, (blk_cell BK232.out 1).trans rfl, (blk_cell BK232.out 2).trans rfl, (blk_cell BK260.out 0).trans rfl, (blk_cell BK260.out 1).trans rfl, (blk_cell BK260.out 2).trans rfl, hx288_0⟩ (fun hHeld => ?_); refine with_tabW footwaylaw09_QueueTells.tab22 footwaylaw09_QueueTells.bits22 (fun HT_ HW_ => ?_)
          generalize wc.drew = w210 at HO_233001 HO_245001 HO_253001 HO_261001 HO_269001 HO_286001 BK232 BK244 BK252 BK260 BK268 BK269 BK285 HB HR292 hx288_0 hHeld ⊢
          refine pure_ (i := 0) (N := some 161) (v := ?_) (a' := ?_) #[true, false, false, false, false, false, false, false, false, false, false, false, false, false, false, false, false, false, false, false, false, false, false] rfl rfl (any_of HT_.out (by kernel_rfl)) (fun _ _ _ h => h) (Or.inl ⟨by rfl, ?_⟩) ?_ ?_
          rotate_left
          ·intro w'
           go_simp
           with_reducible rfl
          rotate_left
          ·simp only [Act.put, List.setIfInBounds_toArray, List.set_cons_zero, List.set_cons_succ, i64_w, i32_w]
           rfl
          refine pure_ (i := 1) (N := some 162) (v := ?_) (a' := ?_) #[true, true, false, false, false, false, false, false, false, false, false, false, false, false, false, false, false, false, false, false, false, false, false] rfl rfl (any_of HT_.out (by kernel_rfl)) (fun _ _ _ h => h) (Or.inl ⟨by rfl, ?_⟩) ?_ ?_
          rotate_left
          ·intro w'
           go_simp
           with_reducible rfl
          rotate_left
          ·simp only [Act.put, List.setIfInBounds_toArray, List.set_cons_zero, List.set_cons_succ, i64_w, i32_w]
           rfl
          refine pure_ (i := 2) (N := some 163) (v := ?_) (a' := ?_) #[true, true, true, false, false, false, false, false, false, false, false, false, false, false, false, false, false, false, false, false, false, false, false] rfl rfl (any_of HT_.out (by kernel_rfl)) (fun _ _ _ h => h) (Or.inl ⟨by rfl, ?_⟩) ?_ ?_
          rotate_left
          ·intro w'
           go_simp
           with_reducible rfl
          rotate_left
          ·simp only [Act.put, List.setIfInBounds_toArray, List.set_cons_zero, List.set_cons_succ, i64_w, i32_w]
           rfl
          refine pure_ (i := 3) (N := some 164) (v := ?_) (a' := ?_) #[true, true, true, true, false, false, false, false, false, false, false, false, false, false, false, false, false, false, false, false, false, false, false] rfl rfl (any_of HT_.out (by kernel_rfl)) (fun _ _ _ h => h) (Or.inl ⟨by rfl, ?_⟩) ?_ ?_
          rotate_left
          ·intro w'
           go_simp
           with_reducible rfl
          rotate_left
          ·simp only [Act.put, List.setIfInBounds_toArray, List.set_cons_zero, List.set_cons_succ, i64_w, i32_w]
           rfl
          refine pure_ (i := 4) (N := some 165) (v := ?_) (a' := ?_) #[true, true, true, true, true, false, false, false, false, false, false, false, false, false, false, false, false, false, false, false, false, false, false] rfl rfl (any_of HT_.out (by kernel_rfl)) (fun _ _ _ h => h) (Or.inl ⟨by rfl, ?_⟩) ?_ ?_
          rotate_left
          ·intro w'
           go_simp
           with_reducible rfl
          rotate_left
          ·simp only [Act.put, List.setIfInBounds_toArray, List.set_cons_zero, List.set_cons_succ, i64_w, i32_w]
           rfl
          refine take_ (i := 5) (N := some 166) (v := ?_) (a' := ?_) #[true, true, true, true, true, true, false, false, false, false, false, false, false, false, false, false, false, false, false, false, false, false, false] rfl rfl (take_ofW HT_.out HW_.out (by kernel_rfl)) (fun _ _ _ h => h) (Or.inl ⟨by rfl, ?_⟩) hHeld ?_ ?_
          rotate_left
          ·rintro w' ⟨s0, s1, s2, s3, s4, s5, s6⟩
           go_simp
           with_reducible rfl
          rotate_left
          ·simp only [Act.put, List.setIfInBounds_toArray, List.set_cons_zero, List.set_cons_succ, i64_w, i32_w]
           rfl
          refine pure_ (i := 6) (N := some 167) (v := ?_) (a' := ?_) #[true, true, true, true, true, true, true, false, false, false, false, false, false, false, false, false, false, false, false, false, false, false, false] rfl rfl (any_of HT_.out (by kernel_rfl)) (fun _ _ _ h => h) (Or.inl ⟨by rfl, ?_⟩) ?_ ?_
          rotate_left
          ·intro w'
           go_simp
           with_reducible rfl
          rotate_left
          ·simp only [Act.put, List.setIfInBounds_toArray, List.set_cons_zero, List.set_cons_succ, i64_w, i32_w]
           rfl
          refine take_ (i := 7) (N := some 168) (v := ?_) (a' := ?_) #[true, true, true, true, true, true, true, true, false, false, false, false, false, false, false, false, false, false, false, false, false, false, false] rfl rfl (take_ofW HT_.out HW_.out (by kernel_rfl)) (fun _ _ _ h => h) (Or.inl ⟨by rfl, ?_⟩) hHeld ?_ ?_
          rotate_left
          ·rintro w' ⟨s0, s1, s2, s3, s4, s5, s6⟩
           go_simp
           with_reducible rfl
          rotate_left
          ·simp only [Act.put, List.setIfInBounds_toArray, List.set_cons_zero, List.set_cons_succ, i64_w, i32_w]
           rfl
          refine pure_ (i := 8) (N := some 169) (v := ?_) (a' := ?_) #[true, true, true, true, true, true, true, true, true, false, false, false, false, false, false, false, false, false, false, false, false, false, false] rfl rfl (any_of HT_.out (by kernel_rfl)) (fun _ _ _ h => h) (Or.inl ⟨by rfl, ?_⟩) ?_ ?_
          rotate_left
          ·intro w'
           go_simp
           with_reducible rfl
          rotate_left
          ·simp only [Act.put, List.setIfInBounds_toArray, List.set_cons_zero, List.set_cons_succ, i64_w, i32_w]
           rfl
          refine pure_ (i := 9) (N := some 170) (v := ?_) (a' := ?_) #[true, true, true, true, true, true, true, true, true, true, false, false, false, false, false, false, false, false, false, false, false, false, false] rfl rfl (any_of HT_.out (by kernel_rfl)) (fun _ _ _ h => h) (Or.inl ⟨by rfl, ?_⟩) ?_ ?_
          rotate_left
          ·intro w'
           go_simp
           with_reducible rfl
          rotate_left
          ·simp only [Act.put, List.setIfInBounds_toArray, List.set_cons_zero, List.set_cons_succ, i64_w, i32_w]
           rfl
          refine pure_ (i := 10) (N := some 171) (v := ?_) (a' := ?_) #[true, true, true, true, true, true, true, true, true, true, true, false, false, false, false, false, false, false, false, false, false, false, false] rfl rfl (any_of HT_.out (by kernel_rfl)) (fun _ _ _ h => h) (Or.inl ⟨by rfl, ?_⟩) ?_ ?_
          rotate_left
          ·intro w'
           go_simp
           with_reducible rfl
          rotate_left
          ·simp only [Act.put, List.setIfInBounds_toArray, List.set_cons_zero, List.set_cons_succ, i64_w, i32_w]
           rfl
          refine pure_ (i := 12) (N := some 173) (v := ?_) (a' := ?_) #[true, true, true, true, true, true, true, true, true, true, true, false, true, false, false, false, false, false, false, false, false, false, false] rfl rfl (any_of HT_.out (by kernel_rfl)) (fun _ _ _ h => h) (Or.inl ⟨by rfl, ?_⟩) ?_ ?_
          rotate_left
          ·intro w'
           go_simp
           with_reducible rfl
          rotate_left
          ·simp only [Act.put, List.setIfInBounds_toArray, List.set_cons_zero, List.set_cons_succ, i64_w, i32_w]
           rfl
          refine pure_ (i := 14) (N := some 175) (v := ?_) (a' := ?_) #[true, true, true, true, true, true, true, true, true, true, true, false, true, false, true, false, false, false, false, false, false, false, false] rfl rfl (any_of HT_.out (by kernel_rfl)) (fun _ _ _ h => h) (Or.inl ⟨by rfl, ?_⟩) ?_ ?_
          rotate_left
          ·intro w'
           go_simp
           with_reducible rfl
          rotate_left
          ·simp only [Act.put, List.setIfInBounds_toArray, List.set_cons_zero, List.set_cons_succ, i64_w, i32_w]
           rfl
          refine pure_ (i := 17) (N := some 178) (v := ?_) (a' := ?_) #[true, true, true, true, true, true, true, true, true, true, true, false, true, false, true, false, false, true, false, false, false, false, false] rfl rfl (any_of HT_.out (by kernel_rfl)) (fun _ _ _ h => h) (Or.inl ⟨by rfl, ?_⟩) ?_ ?_
          rotate_left
          ·intro w'
           go_simp
           with_reducible rfl
          rotate_left
          ·simp only [Act.put, List.setIfInBounds_toArray, List.set_cons_zero, List.set_cons_succ, i64_w, i32_w]
           rfl
          refine take_ (i := 11) (N := some 172) (v := ?_) (a' := ?_) #[true, true, true, true, true, true, true, true, true, true, true, true, true, false, true, false, false, true, false, false, false, false, false] rfl rfl (take_ofW HT_.out HW_.out (by kernel_rfl)) (fun _ _ _ h => h) (Or.inl ⟨by rfl, ?_⟩) hHeld ?_ ?_
          rotate_left
          ·rintro w' ⟨s0, s1, s2, s3, s4, s5, s6⟩
           go_simp
           with_reducible rfl
          rotate_left
          ·simp only [Act.put, List.setIfInBounds_toArray, List.set_cons_zero, List.set_cons_succ, i64_w, i32_w]
           rfl
          refine take_ (i := 13) (N := some 174) (v := ?_) (a' := ?_) #[true, true, true, true, true, true, true, true, true, true, true, true, true, true, true, false, false, true, false, false, false, false, false] rfl rfl (take_ofW HT_.out HW_.out (by kernel_rfl)) (fun _ _ _ h => h) (Or.inl ⟨by rfl, ?_⟩) hHeld ?_ ?_
          rotate_left
          ·rintro w' ⟨s0, s1, s2, s3, s4, s5, s6⟩
           go_simp
           with_reducible rfl
          rotate_left
          ·simp only [Act.put, List.setIfInBounds_toArray, List.set_cons_zero, List.set_cons_succ, i64_w, i32_w]
           rfl
          refine take_ (i := 15) (N := some 176) (v := ?_) (a' := ?_) #[true, true, true, true, true, true, true, true, true, true, true, true, true, true, true, true, false, true, false, false, false, false, false] rfl rfl (take_ofW HT_.out HW_.out (by kernel_rfl)) (fun _ _ _ h => h) (Or.inl ⟨by rfl, ?_⟩) hHeld ?_ ?_
          rotate_left
          ·rintro w' ⟨s0, s1, s2, s3, s4, s5, s6⟩
           go_simp
           with_reducible rfl
          rotate_left
          ·simp only [Act.put, List.setIfInBounds_toArray, List.set_cons_zero, List.set_cons_succ, i64_w, i32_w]
           rfl
          refine pure_ (i := 16) (N := some 177) (v := ?_) (a' := ?_) #[true, true, true, true, true, true, true, true, true, true, true, true, true, true, true, true, true, true, false, false, false, false, false] rfl rfl (any_of HT_.out (by kernel_rfl)) (fun _ _ _ h => h) (Or.inl ⟨by rfl, ?_⟩) ?_ ?_
          rotate_left
          ·intro w'
           go_simp
           with_reducible rfl
          rotate_left
          ·simp only [Act.put, List.setIfInBounds_toArray, List.set_cons_zero, List.set_cons_succ, i64_w, i32_w]
           rfl
          refine take_ (i := 18) (N := some 179) (v := ?_) (a' := ?_) #[true, true, true, true, true, true, true, true, true, true, true, true, true, true, true, true, true, true, true, false, false, false, false] rfl rfl (take_ofW HT_.out HW_.out (by kernel_rfl)) (fun _ _ _ h => h) (Or.inl ⟨by rfl, ?_⟩) hHeld ?_ ?_
          rotate_left
          ·rintro w' ⟨s0, s1, s2, s3, s4, s5, s6⟩
           go_simp
           with_reducible rfl
          rotate_left
          ·simp only [Act.put, List.setIfInBounds_toArray, List.set_cons_zero, List.set_cons_succ, i64_w, i32_w]
           rfl
          refine pure_ (i := 19) (N := some 180) (v := ?_) (a' := ?_) #[true, true, true, true, true, true, true, true, true, true, true, true, true, true, true, true, true, true, true, true, false, false, false] rfl rfl (any_of HT_.out (by kernel_rfl)) (fun _ _ _ h => h) (Or.inl ⟨by rfl, ?_⟩) ?_ ?_
          rotate_left
          ·intro w'
           go_simp
           with_reducible rfl
          rotate_left
          ·simp only [Act.put, List.setIfInBounds_toArray, List.set_cons_zero, List.set_cons_succ, i64_w, i32_w]
           rfl
          refine one_ (i := 20) (N := some 181) #[true, true, true, true, true, true, true, true, true, true, true, true, true, true, true, true, true, true, true, true, true, false, false] rfl rfl (one_of HT_.out (by kernel_rfl)) (by decide) (fun K hK => ?_)
          refine goes_ Try.func28 (by kernel_rfl) rfl #[.agg #[.int .i64 t253, .slice Ao41 t254.length co41, .int .i64 t257], .agg #[.int .i64 t233, .slice A211 y289.length c211, .int .i64 t237]] (by rfl) rfl rfl (by (try simp only [List.map_toArray, List.map_cons, List.map_nil]); first | done | rfl | (simp only [List.length_drop, List.length_take]; rfl)) ?_
          with_reducible refine (footwayref09_Same.calls kj122 t253 _ _ t254 t257 t233 _ _ y289 t237 false _ ?side1 ?side2 ?side3 ?side4 A205.out).mono ?_
          (case side1 => repeat (first | exact (V_reads' HO_261001.out).2.2 | (with_reducible refine C_alloc ?_ _) | (with_reducible refine C_drewN ?_ _) | (with_reducible refine C_drew ?_)))
          (case side2 => exact (V_reads' HO_261001.out).2.1)
          (case side3 => repeat (first | exact (by repeat (first | (with_reducible exact HR292.out) | (with_reducible refine C_alloc ?_ _) | (with_reducible refine C_drewN ?_ _) | (with_reducible refine C_drew ?_) | exact HR292.out)) | (with_reducible refine C_alloc ?_ _) | (with_reducible refine C_drewN ?_ _) | (with_reducible refine C_drew ?_)))
          (case side4 => exact HC292.out)
          rintro e w212 ⟨rfl, hb⟩
          have HS6_ := (hb.cell (World.block_lt_of_cell? _ _ (hHeld.2.2.2.2.2.2))).trans (hHeld.2.2.2.2.2.2)
          refine ⟨_, rfl, ?_⟩
          have n0_ := Aside0.mk (R_below (by (with_reducible repeat (first | apply R_alloc | apply R_drewN | apply R_drew)); exact HO_233001.out) hb)
          have n1_ := Aside0.mk (R_below (by (with_reducible repeat (first | apply R_alloc | apply R_drewN | apply R_drew)); exact HO_245001.out) hb)
          have n2_ := Aside0.mk (V_below (by (with_reducible repeat (first | apply V_alloc | apply V_drewN | apply V_drew)); exact HO_253001.out) hb)
          have n3_ := Aside0.mk (V_below (by (with_reducible repeat (first | apply V_alloc | apply V_drewN | apply V_drew)); exact HO_261001.out) hb)
          have n4_ := Aside0.mk (R_below (by (with_reducible repeat (first | apply R_alloc | apply R_drewN | apply R_drew)); exact HO_269001.out) hb)
          have n5_ := Aside0.mk (R_below (by (with_reducible repeat (first | apply R_alloc | apply R_drewN | apply R_drew)); exact HO_286001.out) hb)
          have n6_ := Aside0.mk (blk_below (g := gb232) (o := .cells #[.int .i64 t233, .slice (some ad288) t234.length co17, .int .i64 t237] 35 (0, 0)) (by (with_reducible repeat (first | refine blk_drewN ?_ _ | refine blk_drew ?_ | refine blk_alloc ?_ _)); exact BK232.out) hb)
          have n7_ := Aside0.mk (blk_below (g := gb244) (o := .cells #[.int .i64 t238, .slice Ao24 t239.length co24, .int .i64 t242] 35 (0, 0)) (by (with_reducible repeat (first | refine blk_drewN ?_ _ | refine blk_drew ?_ | refine blk_alloc ?_ _)); exact BK244.out) hb)
          have n8_ := Aside0.mk (blk_below (g := gb252) (o := .cells #[.int .i64 t245, .slice Ao32 t246.length co32, .int .i64 t249] 35 (0, 0)) (by (with_reducible repeat (first | refine blk_drewN ?_ _ | refine blk_drew ?_ | refine blk_alloc ?_ _)); exact BK252.out) hb)
          have n9_ := Aside0.mk (blk_below (g := gb260) (o := .cells #[.int .i64 t253, .slice Ao41 t254.length co41, .int .i64 t257] 35 (0, 0)) (by (with_reducible repeat (first | refine blk_drewN ?_ _ | refine blk_drew ?_ | refine blk_alloc ?_ _)); exact BK260.out) hb)
          have n10_ := Aside0.mk (blk_below (g := gb268) (o := .cells #[.int .i64 t261, .slice Ao50 t262.length co50, .int .i64 t265] 35 (0, 0)) (by (with_reducible repeat (first | refine blk_drewN ?_ _ | refine blk_drew ?_ | refine blk_alloc ?_ _)); exact BK268.out) hb)
          have n11_ := Aside0.mk (blk_below (g := gb269) (o := .cells #[.int .i64 0, .slice none 0 0, .int .i64 0] 35 (0, 0)) (by (with_reducible repeat (first | refine blk_drewN ?_ _ | refine blk_drew ?_ | refine blk_alloc ?_ _)); exact BK269.out) hb)
          have n12_ := Aside0.mk (blk_below (g := gb285) (o := .cells #[.int .i64 t279, .slice Ao141 t280.length co141, .int .i64 t283] 35 (0, 0)) (by (with_reducible repeat (first | refine blk_drewN ?_ _ | refine blk_drew ?_ | refine blk_alloc ?_ _)); exact BK285.out) hb)
          have n13_ := Aside0.mk (C_below (by repeat (first | (with_reducible exact HR292.out) | (with_reducible refine C_alloc ?_ _) | (with_reducible refine C_drewN ?_ _) | (with_reducible refine C_drew ?_) | exact HR292.out)) hb)
          have n14_ := Aside0.mk (below_step (by repeat (first | (with_reducible first | exact HB.out | apply below_alloc | apply pw_below_drewN | apply below_drew1 | refine below_set ?_ GE232.out | refine below_set ?_ GE244.out | refine below_set ?_ GE252.out | refine below_set ?_ GE260.out | refine below_set ?_ GE268.out | refine below_set ?_ GE269.out | refine below_set ?_ GE285.out) | exact HB.out)) hb)
          clear HO_233001
          clear HO_245001
          clear HO_253001
          clear HO_261001
          clear HO_269001
          clear HO_286001
          clear BK232
          clear BK244
          clear BK252
          clear BK260
          clear BK268
          clear BK269
          clear BK285
          clear HR292
          clear HB
          have HO_233001 := n0_
          have HO_245001 := n1_
          have HO_253001 := n2_
          have HO_261001 := n3_
          have HO_269001 := n4_
          have HO_286001 := n5_
          have BK232 := n6_
          have BK244 := n7_
          have BK252 := n8_
          have BK260 := n9_
          have BK268 := n10_
          have BK269 := n11_
          have BK285 := n12_
          have HR292 := n13_
          have HB := n14_
          clear n0_ n1_ n2_ n3_ n4_ n5_ n6_ n7_ n8_ n9_ n10_ n11_ n12_ n13_ n14_
          (try clear hb)
          (try clear hb2)
          (try clear hk)
          (try clear hi)
          refine hK.out _ _ ⟨(blk_cell BK232.out 0).trans rfl, (blk_cell BK232.out 1).trans rfl, (blk_cell BK232.out 2).trans rfl, (blk_cell BK260.out 0).trans rfl, (blk_cell BK260.out 1).trans rfl, (blk_cell BK260.out 2).trans rfl, HS6_⟩ (fun hHeld => ?_)
          clear hK K
          refine norm_ (a' := ?_) ?_ ?_
          rotate_left
          ·show Act.put _ (some 181) _ = _
           simp only [Act.put, List.setIfInBounds_toArray, List.set_cons_zero, List.set_cons_succ, i64_w, i32_w]
           rfl
          refine pure_ (i := 21) (N := some 182) (v := ?_) (a' := ?_) #[true, true, true, true, true, true, true, true, true, true, true, true, true, true, true, true, true, true, true, true, true, true, false] rfl rfl (any_of HT_.out (by kernel_rfl)) (fun _ _ _ h => h) (Or.inl ⟨by rfl, ?_⟩) ?_ ?_
          rotate_left
          ·intro w'
           go_simp
           with_reducible rfl
          rotate_left
          ·simp only [Act.put, List.setIfInBounds_toArray, List.set_cons_zero, List.set_cons_succ, i64_w, i32_w]
           rfl
          refine pure_ (i := 22) (N := some 183) (v := ?_) (a' := ?_) #[true, true, true, true, true, true, true, true, true, true, true, true, true, true, true, true, true, true, true, true, true, true, true] rfl rfl (any_of HT_.out (by kernel_rfl)) (fun _ _ _ h => h) (Or.inl ⟨by rfl, ?_⟩) ?_ ?_
          rotate_left
          ·intro w'
           go_simp
           with_reducible rfl
          rotate_left
          ·simp only [Act.put, List.setIfInBounds_toArray, List.set_cons_zero, List.set_cons_succ, i64_w, i32_w]
           rfl
          refine done_ (done_of HT_.out (by kernel_rfl)) ?_
          try go_wp2
          go_ret
          exact ⟨by first | rfl | (simp [errW_none, errW_some] <;> rfl) | (simp only [← hji5]; first | rfl | (simp [errW_none, errW_some] <;> rfl)) | (simp [*, errW_none, errW_some] <;> rfl), by repeat (first | (with_reducible first | exact HB.out | apply below_alloc | apply pw_below_drewN | apply below_drew1 | refine below_set ?_ GE232.out | refine below_set ?_ GE244.out | refine below_set ?_ GE252.out | refine below_set ?_ GE260.out | refine below_set ?_ GE268.out | refine below_set ?_ GE269.out | refine below_set ?_ GE285.out) | exact HB.out)⟩
        ·rw [if_neg c204] at H
         exact absurd H (by simp)
       ·rw [if_neg c203] at H
        have c203b0 : (t258.toList == (rdOf ByteArray.empty t234 0).toList) = false := beq_eq_false_iff_ne.mpr c203
        have c203b1 : (t258.toList != (rdOf ByteArray.empty t234 0).toList) = true := bne_iff_ne.mpr c203
        obtain rfl := Option.some.inj H
        try go_wp2
        have n0_ := Aside0.mk (R_drew HO_233001.out)
        have n1_ := Aside0.mk (R_drew HO_245001.out)
        have n2_ := Aside0.mk (V_drew HO_253001.out)
        have n3_ := Aside0.mk (V_drew HO_261001.out)
        have n4_ := Aside0.mk (R_drew HO_269001.out)
        have n5_ := Aside0.mk (R_drew HO_286001.out)
        have n6_ := Aside0.mk (blk_drew BK232.out)
        have n7_ := Aside0.mk (blk_drew BK244.out)
        have n8_ := Aside0.mk (blk_drew BK252.out)
        have n9_ := Aside0.mk (blk_drew BK260.out)
        have n10_ := Aside0.mk (blk_drew BK268.out)
        have n11_ := Aside0.mk (blk_drew BK269.out)
        have n12_ := Aside0.mk (blk_drew BK285.out)
        have n13_ := Aside0.mk (below_drew1 HB.out)
        clear HO_233001
        clear HO_245001
        clear HO_253001
        clear HO_261001
        clear HO_269001
        clear HO_286001
        clear BK232
        clear BK244
        clear BK252
        clear BK260
        clear BK268
        clear BK269
        clear BK285
        clear HB
        have HO_233001 := n0_
        have HO_245001 := n1_
        have HO_253001 := n2_
        have HO_261001 := n3_
        have HO_269001 := n4_
        have HO_286001 := n5_
        have BK232 := n6_
        have BK244 := n7_
        have BK252 := n8_
        have BK260 := n9_
        have BK268 := n10_
        have BK269 := n11_
        have BK285 := n12_
        have HB := n13_
        clear n0_ n1_ n2_ n3_ n4_ n5_ n6_ n7_ n8_ n9_ n10_ n11_ n12_ n13_
        have p288 : 0 ≤ (0 : Int) := (by omega)
        have q288 : 0 < (t234.length : Int) := of_decide_eq_true (by first | (with_reducible assumption) | assumption)
        obtain ⟨ad288, e288, hx288_0⟩ := Kd.at_string (R_reads' HO_233001.out).2.2 0 p288 q288
        cases e288
        have qi288 : (0 < t234.length) = True := eq_true (by omega)
        (try rw [show ((0 : Int)).toNat = 0 from rfl] at hx288_0)
        (try rw [Addr.add_zero'] at hx288_0)
        replace p288 := eq_true p288
        replace q288 := eq_true q288
        refine start_ (n := 23) (S := fun w' => w'.cell? ⟨gb232, 0, none⟩ = some (.int .i64 t233) ∧ w'.cell? ⟨gb232, 1, none⟩ = some (.slice (some ad288) t234.length co17) ∧ w'.cell? ⟨gb232, 2, none⟩ = some (.int .i64 t237) ∧ w'.cell? ad288 = some (.string (rdOf ByteArray.empty t234 0))) (ds := []) #[false, false, false, false, false, false, false, false, false, false, false, false, false, false, false, false, false, false, false, false, false, false, false] (by kernel_rfl) rfl rfl ⟨(blk_cell BK232.out 0).trans rfl, (blk_cell BK232.out 1).trans rfl, (blk_cell BK232.out 2).trans rfl, hx288_0⟩ (fun hHeld => ?_); refine with_tabW footwaylaw09_QueueTells.tab22 footwaylaw09_QueueTells.bits22 (fun HT_ HW_ => ?_)
        generalize wc.drew = w213 at HO_233001 HO_245001 HO_253001 HO_261001 HO_269001 HO_286001 BK232 BK244 BK252 BK260 BK268 BK269 BK285 HB hx288_0 hHeld ⊢
        refine pure_ (i := 0) (N := some 161) (v := ?_) (a' := ?_) #[true, false, false, false, false, false, false, false, false, false, false, false, false, false, false, false, false, false, false, false, false, false, false] rfl rfl (any_of HT_.out (by kernel_rfl)) (fun _ _ _ h => h) (Or.inl ⟨by rfl, ?_⟩) ?_ ?_
        rotate_left
        ·intro w'
         go_simp
         with_reducible rfl
        rotate_left
        ·simp only [Act.put, List.setIfInBounds_toArray, List.set_cons_zero, List.set_cons_succ, i64_w, i32_w]
         rfl
        refine pure_ (i := 1) (N := some 162) (v := ?_) (a' := ?_) #[true, true, false, false, false, false, false, false, false, false, false, false, false, false, false, false, false, false, false, false, false, false, false] rfl rfl (any_of HT_.out (by kernel_rfl)) (fun _ _ _ h => h) (Or.inl ⟨by rfl, ?_⟩) ?_ ?_
        rotate_left
        ·intro w'
         go_simp
         with_reducible rfl
        rotate_left
        ·simp only [Act.put, List.setIfInBounds_toArray, List.set_cons_zero, List.set_cons_succ, i64_w, i32_w]
         rfl
        refine pure_ (i := 2) (N := some 163) (v := ?_) (a' := ?_) #[true, true, true, false, false, false, false, false, false, false, false, false, false, false, false, false, false, false, false, false, false, false, false] rfl rfl (any_of HT_.out (by kernel_rfl)) (fun _ _ _ h => h) (Or.inl ⟨by rfl, ?_⟩) ?_ ?_
        rotate_left
        ·intro w'
         go_simp
         with_reducible rfl
        rotate_left
        ·simp only [Act.put, List.setIfInBounds_toArray, List.set_cons_zero, List.set_cons_succ, i64_w, i32_w]
         rfl
        refine pure_ (i := 3) (N := some 164) (v := ?_) (a' := ?_) #[true, true, true, true, false, false, false, false, false, false, false, false, false, false, false, false, false, false, false, false, false, false, false] rfl rfl (any_of HT_.out (by kernel_rfl)) (fun _ _ _ h => h) (Or.inl ⟨by rfl, ?_⟩) ?_ ?_
        rotate_left
        ·intro w'
         go_simp
         with_reducible rfl
        rotate_left
        ·simp only [Act.put, List.setIfInBounds_toArray, List.set_cons_zero, List.set_cons_succ, i64_w, i32_w]
         rfl
        refine pure_ (i := 4) (N := some 165) (v := ?_) (a' := ?_) #[true, true, true, true, true, false, false, false, false, false, false, false, false, false, false, false, false, false, false, false, false, false, false] rfl rfl (any_of HT_.out (by kernel_rfl)) (fun _ _ _ h => h) (Or.inl ⟨by rfl, ?_⟩) ?_ ?_
        rotate_left
        ·intro w'
         go_simp
         with_reducible rfl
        rotate_left
        ·simp only [Act.put, List.setIfInBounds_toArray, List.set_cons_zero, List.set_cons_succ, i64_w, i32_w]
         rfl
        refine take_ (i := 5) (N := some 166) (v := ?_) (a' := ?_) #[true, true, true, true, true, true, false, false, false, false, false, false, false, false, false, false, false, false, false, false, false, false, false] rfl rfl (take_ofW HT_.out HW_.out (by kernel_rfl)) (fun _ _ _ h => h) (Or.inl ⟨by rfl, ?_⟩) hHeld ?_ ?_
        rotate_left
        ·rintro w' ⟨s0, s1, s2, s3⟩
         go_simp
         with_reducible rfl
        rotate_left
        ·simp only [Act.put, List.setIfInBounds_toArray, List.set_cons_zero, List.set_cons_succ, i64_w, i32_w]
         rfl
        refine pure_ (i := 6) (N := some 167) (v := ?_) (a' := ?_) #[true, true, true, true, true, true, true, false, false, false, false, false, false, false, false, false, false, false, false, false, false, false, false] rfl rfl (any_of HT_.out (by kernel_rfl)) (fun _ _ _ h => h) (Or.inl ⟨by rfl, ?_⟩) ?_ ?_
        rotate_left
        ·intro w'
         go_simp
         with_reducible rfl
        rotate_left
        ·simp only [Act.put, List.setIfInBounds_toArray, List.set_cons_zero, List.set_cons_succ, i64_w, i32_w]
         rfl
        refine take_ (i := 7) (N := some 168) (v := ?_) (a' := ?_) #[true, true, true, true, true, true, true, true, false, false, false, false, false, false, false, false, false, false, false, false, false, false, false] rfl rfl (take_ofW HT_.out HW_.out (by kernel_rfl)) (fun _ _ _ h => h) (Or.inl ⟨by rfl, ?_⟩) hHeld ?_ ?_
        rotate_left
        ·rintro w' ⟨s0, s1, s2, s3⟩
         go_simp
         with_reducible rfl
        rotate_left
        ·simp only [Act.put, List.setIfInBounds_toArray, List.set_cons_zero, List.set_cons_succ, i64_w, i32_w]
         rfl
        refine pure_ (i := 8) (N := some 169) (v := ?_) (a' := ?_) #[true, true, true, true, true, true, true, true, true, false, false, false, false, false, false, false, false, false, false, false, false, false, false] rfl rfl (any_of HT_.out (by kernel_rfl)) (fun _ _ _ h => h) (Or.inl ⟨by rfl, ?_⟩) ?_ ?_
        rotate_left
        ·intro w'
         go_simp
         with_reducible rfl
        rotate_left
        ·simp only [Act.put, List.setIfInBounds_toArray, List.set_cons_zero, List.set_cons_succ, i64_w, i32_w]
         rfl
        refine pure_ (i := 9) (N := some 170) (v := ?_) (a' := ?_) #[true, true, true, true, true, true, true, true, true, true, false, false, false, false, false, false, false, false, false, false, false, false, false] rfl rfl (any_of HT_.out (by kernel_rfl)) (fun _ _ _ h => h) (Or.inl ⟨by rfl, ?_⟩) ?_ ?_
        rotate_left
        ·intro w'
         go_simp
         with_reducible rfl
        rotate_left
        ·simp only [Act.put, List.setIfInBounds_toArray, List.set_cons_zero, List.set_cons_succ, i64_w, i32_w]
         rfl
        refine pure_ (i := 10) (N := some 171) (v := ?_) (a' := ?_) #[true, true, true, true, true, true, true, true, true, true, true, false, false, false, false, false, false, false, false, false, false, false, false] rfl rfl (any_of HT_.out (by kernel_rfl)) (fun _ _ _ h => h) (Or.inl ⟨by rfl, ?_⟩) ?_ ?_
        rotate_left
        ·intro w'
         go_simp
         with_reducible rfl
        rotate_left
        ·simp only [Act.put, List.setIfInBounds_toArray, List.set_cons_zero, List.set_cons_succ, i64_w, i32_w]
         rfl
        refine pure_ (i := 11) (N := some 172) (v := undef) (a' := ?_) #[true, true, true, true, true, true, true, true, true, true, true, true, false, false, false, false, false, false, false, false, false, false, false] rfl rfl (any_of HT_.out (by kernel_rfl)) (fun _ _ _ h => h) (Or.inr ⟨by rfl, rfl⟩) ?_ ?_
        rotate_left
        ·simp only [Act.put, List.setIfInBounds_toArray, List.set_cons_zero, List.set_cons_succ, i64_w, i32_w]
         rfl
        refine pure_ (i := 12) (N := some 173) (v := undef) (a' := ?_) #[true, true, true, true, true, true, true, true, true, true, true, true, true, false, false, false, false, false, false, false, false, false, false] rfl rfl (any_of HT_.out (by kernel_rfl)) (fun _ _ _ h => h) (Or.inr ⟨by rfl, rfl⟩) ?_ ?_
        rotate_left
        ·simp only [Act.put, List.setIfInBounds_toArray, List.set_cons_zero, List.set_cons_succ, i64_w, i32_w]
         rfl
        refine pure_ (i := 13) (N := some 174) (v := undef) (a' := ?_) #[true, true, true, true, true, true, true, true, true, true, true, true, true, true, false, false, false, false, false, false, false, false, false] rfl rfl (any_of HT_.out (by kernel_rfl)) (fun _ _ _ h => h) (Or.inr ⟨by rfl, rfl⟩) ?_ ?_
        rotate_left
        ·simp only [Act.put, List.setIfInBounds_toArray, List.set_cons_zero, List.set_cons_succ, i64_w, i32_w]
         rfl
        refine pure_ (i := 14) (N := some 175) (v := undef) (a' := ?_) #[true, true, true, true, true, true, true, true, true, true, true, true, true, true, true, false, false, false, false, false, false, false, false] rfl rfl (any_of HT_.out (by kernel_rfl)) (fun _ _ _ h => h) (Or.inr ⟨by rfl, rfl⟩) ?_ ?_
        rotate_left
        ·simp only [Act.put, List.setIfInBounds_toArray, List.set_cons_zero, List.set_cons_succ, i64_w, i32_w]
         rfl
        refine pure_ (i := 15) (N := some 176) (v := undef) (a' := ?_) #[true, true, true, true, true, true, true, true, true, true, true, true, true, true, true, true, false, false, false, false, false, false, false] rfl rfl (any_of HT_.out (by kernel_rfl)) (fun _ _ _ h => h) (Or.inr ⟨by rfl, rfl⟩) ?_ ?_
        rotate_left
        ·simp only [Act.put, List.setIfInBounds_toArray, List.set_cons_zero, List.set_cons_succ, i64_w, i32_w]
         rfl
        refine pure_ (i := 16) (N := some 177) (v := undef) (a' := ?_) #[true, true, true, true, true, true, true, true, true, true, true, true, true, true, true, true, true, false, false, false, false, false, false] rfl rfl (any_of HT_.out (by kernel_rfl)) (fun _ _ _ h => h) (Or.inr ⟨by rfl, rfl⟩) ?_ ?_
        rotate_left
        ·simp only [Act.put, List.setIfInBounds_toArray, List.set_cons_zero, List.set_cons_succ, i64_w, i32_w]
         rfl
        refine pure_ (i := 17) (N := some 178) (v := undef) (a' := ?_) #[true, true, true, true, true, true, true, true, true, true, true, true, true, true, true, true, true, true, false, false, false, false, false] rfl rfl (any_of HT_.out (by kernel_rfl)) (fun _ _ _ h => h) (Or.inr ⟨by rfl, rfl⟩) ?_ ?_
        rotate_left
        ·simp only [Act.put, List.setIfInBounds_toArray, List.set_cons_zero, List.set_cons_succ, i64_w, i32_w]
         rfl
        refine pure_ (i := 18) (N := some 179) (v := undef) (a' := ?_) #[true, true, true, true, true, true, true, true, true, true, true, true, true, true, true, true, true, true, true, false, false, false, false] rfl rfl (any_of HT_.out (by kernel_rfl)) (fun _ _ _ h => h) (Or.inr ⟨by rfl, rfl⟩) ?_ ?_
        rotate_left
        ·simp only [Act.put, List.setIfInBounds_toArray, List.set_cons_zero, List.set_cons_succ, i64_w, i32_w]
         rfl
        refine pure_ (i := 19) (N := some 180) (v := undef) (a' := ?_) #[true, true, true, true, true, true, true, true, true, true, true, true, true, true, true, true, true, true, true, true, false, false, false] rfl rfl (any_of HT_.out (by kernel_rfl)) (fun _ _ _ h => h) (Or.inr ⟨by rfl, rfl⟩) ?_ ?_
        rotate_left
        ·simp only [Act.put, List.setIfInBounds_toArray, List.set_cons_zero, List.set_cons_succ, i64_w, i32_w]
         rfl
        refine pure_ (i := 20) (N := some 181) (v := undef) (a' := ?_) #[true, true, true, true, true, true, true, true, true, true, true, true, true, true, true, true, true, true, true, true, true, false, false] rfl rfl (any_of HT_.out (by kernel_rfl)) (fun _ _ _ h => h) (Or.inr ⟨by rfl, rfl⟩) ?_ ?_
        rotate_left
        ·simp only [Act.put, List.setIfInBounds_toArray, List.set_cons_zero, List.set_cons_succ, i64_w, i32_w]
         rfl
        refine pure_ (i := 21) (N := some 182) (v := undef) (a' := ?_) #[true, true, true, true, true, true, true, true, true, true, true, true, true, true, true, true, true, true, true, true, true, true, false] rfl rfl (any_of HT_.out (by kernel_rfl)) (fun _ _ _ h => h) (Or.inr ⟨by rfl, rfl⟩) ?_ ?_
        rotate_left
        ·simp only [Act.put, List.setIfInBounds_toArray, List.set_cons_zero, List.set_cons_succ, i64_w, i32_w]
         rfl
        refine pure_ (i := 22) (N := some 183) (v := ?_) (a' := ?_) #[true, true, true, true, true, true, true, true, true, true, true, true, true, true, true, true, true, true, true, true, true, true, true] rfl rfl (any_of HT_.out (by kernel_rfl)) (fun _ _ _ h => h) (Or.inl ⟨by rfl, ?_⟩) ?_ ?_
        rotate_left
        ·intro w'
         go_simp
         with_reducible rfl
        rotate_left
        ·simp only [Act.put, List.setIfInBounds_toArray, List.set_cons_zero, List.set_cons_succ, i64_w, i32_w]
         rfl
        refine done_ (done_of HT_.out (by kernel_rfl)) ?_
        try go_wp2
        go_ret
        exact ⟨by first | rfl | (simp [errW_none, errW_some] <;> rfl) | (simp only [← hji5]; first | rfl | (simp [errW_none, errW_some] <;> rfl)) | (simp [*, errW_none, errW_some] <;> rfl), by repeat (first | (with_reducible first | exact HB.out | apply below_alloc | apply pw_below_drewN | apply below_drew1 | refine below_set ?_ GE232.out | refine below_set ?_ GE244.out | refine below_set ?_ GE252.out | refine below_set ?_ GE260.out | refine below_set ?_ GE268.out | refine below_set ?_ GE269.out | refine below_set ?_ GE285.out) | exact HB.out)⟩
      ·rw [if_neg c202] at H
       exact absurd H (by simp)
     ·rw [if_neg c201] at H
      have c201b0 : (t259 == 0) = false := beq_eq_false_iff_ne.mpr c201
      have c201b1 : (t259 != 0) = true := bne_iff_ne.mpr c201
      obtain rfl := Option.some.inj H
      try go_wp2
      have n0_ := Aside0.mk (R_drew HO_233001.out)
      have n1_ := Aside0.mk (R_drew HO_245001.out)
      have n2_ := Aside0.mk (V_drew HO_253001.out)
      have n3_ := Aside0.mk (V_drew HO_261001.out)
      have n4_ := Aside0.mk (R_drew HO_269001.out)
      have n5_ := Aside0.mk (R_drew HO_286001.out)
      have n6_ := Aside0.mk (blk_drew BK232.out)
      have n7_ := Aside0.mk (blk_drew BK244.out)
      have n8_ := Aside0.mk (blk_drew BK252.out)
      have n9_ := Aside0.mk (blk_drew BK260.out)
      have n10_ := Aside0.mk (blk_drew BK268.out)
      have n11_ := Aside0.mk (blk_drew BK269.out)
      have n12_ := Aside0.mk (blk_drew BK285.out)
      have n13_ := Aside0.mk (below_drew1 HB.out)
      clear HO_233001
      clear HO_245001
      clear HO_253001
      clear HO_261001
      clear HO_269001
      clear HO_286001
      clear BK232
      clear BK244
      clear BK252
      clear BK260
      clear BK268
      clear BK269
      clear BK285
      clear HB
      have HO_233001 := n0_
      have HO_245001 := n1_
      have HO_253001 := n2_
      have HO_261001 := n3_
      have HO_269001 := n4_
      have HO_286001 := n5_
      have BK232 := n6_
      have BK244 := n7_
      have BK252 := n8_
      have BK260 := n9_
      have BK268 := n10_
      have BK269 := n11_
      have BK285 := n12_
      have HB := n13_
      clear n0_ n1_ n2_ n3_ n4_ n5_ n6_ n7_ n8_ n9_ n10_ n11_ n12_ n13_
      refine start_ (n := 23) (S := fun w' => True) (ds := []) #[false, false, false, false, false, false, false, false, false, false, false, false, false, false, false, false, false, false, false, false, false, false, false] (by kernel_rfl) rfl rfl trivial (fun hHeld => ?_); refine with_tabW footwaylaw09_QueueTells.tab22 footwaylaw09_QueueTells.bits22 (fun HT_ HW_ => ?_)
      generalize wc.drew = w214 at HO_233001 HO_245001 HO_253001 HO_261001 HO_269001 HO_286001 BK232 BK244 BK252 BK260 BK268 BK269 BK285 HB hHeld ⊢
      refine pure_ (i := 0) (N := some 161) (v := ?_) (a' := ?_) #[true, false, false, false, false, false, false, false, false, false, false, false, false, false, false, false, false, false, false, false, false, false, false] rfl rfl (any_of HT_.out (by kernel_rfl)) (fun _ _ _ h => h) (Or.inl ⟨by rfl, ?_⟩) ?_ ?_
      rotate_left
      ·intro w'
       go_simp
       with_reducible rfl
      rotate_left
      ·simp only [Act.put, List.setIfInBounds_toArray, List.set_cons_zero, List.set_cons_succ, i64_w, i32_w]
       rfl
      refine pure_ (i := 1) (N := some 162) (v := ?_) (a' := ?_) #[true, true, false, false, false, false, false, false, false, false, false, false, false, false, false, false, false, false, false, false, false, false, false] rfl rfl (any_of HT_.out (by kernel_rfl)) (fun _ _ _ h => h) (Or.inl ⟨by rfl, ?_⟩) ?_ ?_
      rotate_left
      ·intro w'
       go_simp
       with_reducible rfl
      rotate_left
      ·simp only [Act.put, List.setIfInBounds_toArray, List.set_cons_zero, List.set_cons_succ, i64_w, i32_w]
       rfl
      refine pure_ (i := 2) (N := some 163) (v := ?_) (a' := ?_) #[true, true, true, false, false, false, false, false, false, false, false, false, false, false, false, false, false, false, false, false, false, false, false] rfl rfl (any_of HT_.out (by kernel_rfl)) (fun _ _ _ h => h) (Or.inl ⟨by rfl, ?_⟩) ?_ ?_
      rotate_left
      ·intro w'
       go_simp
       with_reducible rfl
      rotate_left
      ·simp only [Act.put, List.setIfInBounds_toArray, List.set_cons_zero, List.set_cons_succ, i64_w, i32_w]
       rfl
      refine pure_ (i := 3) (N := some 164) (v := undef) (a' := ?_) #[true, true, true, true, false, false, false, false, false, false, false, false, false, false, false, false, false, false, false, false, false, false, false] rfl rfl (any_of HT_.out (by kernel_rfl)) (fun _ _ _ h => h) (Or.inr ⟨by rfl, rfl⟩) ?_ ?_
      rotate_left
      ·simp only [Act.put, List.setIfInBounds_toArray, List.set_cons_zero, List.set_cons_succ, i64_w, i32_w]
       rfl
      refine pure_ (i := 4) (N := some 165) (v := undef) (a' := ?_) #[true, true, true, true, true, false, false, false, false, false, false, false, false, false, false, false, false, false, false, false, false, false, false] rfl rfl (any_of HT_.out (by kernel_rfl)) (fun _ _ _ h => h) (Or.inr ⟨by rfl, rfl⟩) ?_ ?_
      rotate_left
      ·simp only [Act.put, List.setIfInBounds_toArray, List.set_cons_zero, List.set_cons_succ, i64_w, i32_w]
       rfl
      refine pure_ (i := 5) (N := some 166) (v := undef) (a' := ?_) #[true, true, true, true, true, true, false, false, false, false, false, false, false, false, false, false, false, false, false, false, false, false, false] rfl rfl (any_of HT_.out (by kernel_rfl)) (fun _ _ _ h => h) (Or.inr ⟨by rfl, rfl⟩) ?_ ?_
      rotate_left
      ·simp only [Act.put, List.setIfInBounds_toArray, List.set_cons_zero, List.set_cons_succ, i64_w, i32_w]
       rfl
      refine pure_ (i := 6) (N := some 167) (v := undef) (a' := ?_) #[true, true, true, true, true, true, true, false, false, false, false, false, false, false, false, false, false, false, false, false, false, false, false] rfl rfl (any_of HT_.out (by kernel_rfl)) (fun _ _ _ h => h) (Or.inr ⟨by rfl, rfl⟩) ?_ ?_
      rotate_left
      ·simp only [Act.put, List.setIfInBounds_toArray, List.set_cons_zero, List.set_cons_succ, i64_w, i32_w]
       rfl
      refine pure_ (i := 7) (N := some 168) (v := undef) (a' := ?_) #[true, true, true, true, true, true, true, true, false, false, false, false, false, false, false, false, false, false, false, false, false, false, false] rfl rfl (any_of HT_.out (by kernel_rfl)) (fun _ _ _ h => h) (Or.inr ⟨by rfl, rfl⟩) ?_ ?_
      rotate_left
      ·simp only [Act.put, List.setIfInBounds_toArray, List.set_cons_zero, List.set_cons_succ, i64_w, i32_w]
       rfl
      refine pure_ (i := 8) (N := some 169) (v := undef) (a' := ?_) #[true, true, true, true, true, true, true, true, true, false, false, false, false, false, false, false, false, false, false, false, false, false, false] rfl rfl (any_of HT_.out (by kernel_rfl)) (fun _ _ _ h => h) (Or.inr ⟨by rfl, rfl⟩) ?_ ?_
      rotate_left
      ·simp only [Act.put, List.setIfInBounds_toArray, List.set_cons_zero, List.set_cons_succ, i64_w, i32_w]
       rfl
      refine pure_ (i := 9) (N := some 170) (v := ?_) (a' := ?_) #[true, true, true, true, true, true, true, true, true, true, false, false, false, false, false, false, false, false, false, false, false, false, false] rfl rfl (any_of HT_.out (by kernel_rfl)) (fun _ _ _ h => h) (Or.inl ⟨by rfl, ?_⟩) ?_ ?_
      rotate_left
      ·intro w'
       go_simp
       with_reducible rfl
      rotate_left
      ·simp only [Act.put, List.setIfInBounds_toArray, List.set_cons_zero, List.set_cons_succ, i64_w, i32_w]
       rfl
      refine pure_ (i := 10) (N := some 171) (v := ?_) (a' := ?_) #[true, true, true, true, true, true, true, true, true, true, true, false, false, false, false, false, false, false, false, false, false, false, false] rfl rfl (any_of HT_.out (by kernel_rfl)) (fun _ _ _ h => h) (Or.inl ⟨by rfl, ?_⟩) ?_ ?_
      rotate_left
      ·intro w'
       go_simp
       with_reducible rfl
      rotate_left
      ·simp only [Act.put, List.setIfInBounds_toArray, List.set_cons_zero, List.set_cons_succ, i64_w, i32_w]
       rfl
      refine pure_ (i := 11) (N := some 172) (v := undef) (a' := ?_) #[true, true, true, true, true, true, true, true, true, true, true, true, false, false, false, false, false, false, false, false, false, false, false] rfl rfl (any_of HT_.out (by kernel_rfl)) (fun _ _ _ h => h) (Or.inr ⟨by rfl, rfl⟩) ?_ ?_
      rotate_left
      ·simp only [Act.put, List.setIfInBounds_toArray, List.set_cons_zero, List.set_cons_succ, i64_w, i32_w]
       rfl
      refine pure_ (i := 12) (N := some 173) (v := undef) (a' := ?_) #[true, true, true, true, true, true, true, true, true, true, true, true, true, false, false, false, false, false, false, false, false, false, false] rfl rfl (any_of HT_.out (by kernel_rfl)) (fun _ _ _ h => h) (Or.inr ⟨by rfl, rfl⟩) ?_ ?_
      rotate_left
      ·simp only [Act.put, List.setIfInBounds_toArray, List.set_cons_zero, List.set_cons_succ, i64_w, i32_w]
       rfl
      refine pure_ (i := 13) (N := some 174) (v := undef) (a' := ?_) #[true, true, true, true, true, true, true, true, true, true, true, true, true, true, false, false, false, false, false, false, false, false, false] rfl rfl (any_of HT_.out (by kernel_rfl)) (fun _ _ _ h => h) (Or.inr ⟨by rfl, rfl⟩) ?_ ?_
      rotate_left
      ·simp only [Act.put, List.setIfInBounds_toArray, List.set_cons_zero, List.set_cons_succ, i64_w, i32_w]
       rfl
      refine pure_ (i := 14) (N := some 175) (v := undef) (a' := ?_) #[true, true, true, true, true, true, true, true, true, true, true, true, true, true, true, false, false, false, false, false, false, false, false] rfl rfl (any_of HT_.out (by kernel_rfl)) (fun _ _ _ h => h) (Or.inr ⟨by rfl, rfl⟩) ?_ ?_
      rotate_left
      ·simp only [Act.put, List.setIfInBounds_toArray, List.set_cons_zero, List.set_cons_succ, i64_w, i32_w]
       rfl
      refine pure_ (i := 15) (N := some 176) (v := undef) (a' := ?_) #[true, true, true, true, true, true, true, true, true, true, true, true, true, true, true, true, false, false, false, false, false, false, false] rfl rfl (any_of HT_.out (by kernel_rfl)) (fun _ _ _ h => h) (Or.inr ⟨by rfl, rfl⟩) ?_ ?_
      rotate_left
      ·simp only [Act.put, List.setIfInBounds_toArray, List.set_cons_zero, List.set_cons_succ, i64_w, i32_w]
       rfl
      refine pure_ (i := 16) (N := some 177) (v := undef) (a' := ?_) #[true, true, true, true, true, true, true, true, true, true, true, true, true, true, true, true, true, false, false, false, false, false, false] rfl rfl (any_of HT_.out (by kernel_rfl)) (fun _ _ _ h => h) (Or.inr ⟨by rfl, rfl⟩) ?_ ?_
      rotate_left
      ·simp only [Act.put, List.setIfInBounds_toArray, List.set_cons_zero, List.set_cons_succ, i64_w, i32_w]
       rfl
      refine pure_ (i := 17) (N := some 178) (v := undef) (a' := ?_) #[true, true, true, true, true, true, true, true, true, true, true, true, true, true, true, true, true, true, false, false, false, false, false] rfl rfl (any_of HT_.out (by kernel_rfl)) (fun _ _ _ h => h) (Or.inr ⟨by rfl, rfl⟩) ?_ ?_
      rotate_left
      ·simp only [Act.put, List.setIfInBounds_toArray, List.set_cons_zero, List.set_cons_succ, i64_w, i32_w]
       rfl
      refine pure_ (i := 18) (N := some 179) (v := undef) (a' := ?_) #[true, true, true, true, true, true, true, true, true, true, true, true, true, true, true, true, true, true, true, false, false, false, false] rfl rfl (any_of HT_.out (by kernel_rfl)) (fun _ _ _ h => h) (Or.inr ⟨by rfl, rfl⟩) ?_ ?_
      rotate_left
      ·simp only [Act.put, List.setIfInBounds_toArray, List.set_cons_zero, List.set_cons_succ, i64_w, i32_w]
       rfl
      refine pure_ (i := 19) (N := some 180) (v := undef) (a' := ?_) #[true, true, true, true, true, true, true, true, true, true, true, true, true, true, true, true, true, true, true, true, false, false, false] rfl rfl (any_of HT_.out (by kernel_rfl)) (fun _ _ _ h => h) (Or.inr ⟨by rfl, rfl⟩) ?_ ?_
      rotate_left
      ·simp only [Act.put, List.setIfInBounds_toArray, List.set_cons_zero, List.set_cons_succ, i64_w, i32_w]
       rfl
      refine pure_ (i := 20) (N := some 181) (v := undef) (a' := ?_) #[true, true, true, true, true, true, true, true, true, true, true, true, true, true, true, true, true, true, true, true, true, false, false] rfl rfl (any_of HT_.out (by kernel_rfl)) (fun _ _ _ h => h) (Or.inr ⟨by rfl, rfl⟩) ?_ ?_
      rotate_left
      ·simp only [Act.put, List.setIfInBounds_toArray, List.set_cons_zero, List.set_cons_succ, i64_w, i32_w]
       rfl
      refine pure_ (i := 21) (N := some 182) (v := undef) (a' := ?_) #[true, true, true, true, true, true, true, true, true, true, true, true, true, true, true, true, true, true, true, true, true, true, false] rfl rfl (any_of HT_.out (by kernel_rfl)) (fun _ _ _ h => h) (Or.inr ⟨by rfl, rfl⟩) ?_ ?_
      rotate_left
      ·simp only [Act.put, List.setIfInBounds_toArray, List.set_cons_zero, List.set_cons_succ, i64_w, i32_w]
       rfl
      refine pure_ (i := 22) (N := some 183) (v := ?_) (a' := ?_) #[true, true, true, true, true, true, true, true, true, true, true, true, true, true, true, true, true, true, true, true, true, true, true] rfl rfl (any_of HT_.out (by kernel_rfl)) (fun _ _ _ h => h) (Or.inl ⟨by rfl, ?_⟩) ?_ ?_
      rotate_left
      ·intro w'
       go_simp
       with_reducible rfl
      rotate_left
      ·simp only [Act.put, List.setIfInBounds_toArray, List.set_cons_zero, List.set_cons_succ, i64_w, i32_w]
       rfl
      refine done_ (done_of HT_.out (by kernel_rfl)) ?_
      try go_wp2
      go_ret
      exact ⟨by first | rfl | (simp [errW_none, errW_some] <;> rfl) | (simp only [← hji5]; first | rfl | (simp [errW_none, errW_some] <;> rfl)) | (simp [*, errW_none, errW_some] <;> rfl), by repeat (first | (with_reducible first | exact HB.out | apply below_alloc | apply pw_below_drewN | apply below_drew1 | refine below_set ?_ GE232.out | refine below_set ?_ GE244.out | refine below_set ?_ GE252.out | refine below_set ?_ GE260.out | refine below_set ?_ GE268.out | refine below_set ?_ GE269.out | refine below_set ?_ GE285.out) | exact HB.out)⟩
   case rest =>
    clear HC160
    (try clear c2); (try clear p2); (try clear q2); (try clear hx2); (try clear qi2); (try clear c20); (try clear c21); (try clear c28); (try clear p28); (try clear q28); (try clear hx28); (try clear qi28); (try clear c201); (try clear c201b0); (try clear c201b1); (try clear c202); (try clear c203); (try clear c203b0); (try clear c203b1); (try clear c204); (try clear c211); (try clear hx288_0); (try clear p288); (try clear q288)
    obtain ⟨kq, HA, HJ159, HO_233001, HO_245001, HO_253001, HO_261001, HO_269001, HO_286001, BK232, BK244, BK252, BK260, BK268, BK269, BK285, HB⟩ := hcut
    cases kq with
    | zero => exact absurd HA.out (by simp [footwaylaw09_QueueTells.j4])
    | succ kj159 =>
     have H := HA.out
     clear HA
     simp only [footwaylaw09_QueueTells.j4] at H
     by_cases c215 : (zs.size : Int) > 114
     ·rw [if_pos c215] at H
      have c215b0 : decide (114 < (zs.size : Int)) = true := decide_eq_true c215
      have c215b1 : decide (114 < zs.size) = true := decide_eq_true (by omega)
      clear c215
      by_cases c216 : t251 = 1
      ·rw [if_pos c216] at H
       have c216b0 : (t251 == 1) = true := beq_iff_eq.mpr c216
       have c216b1 : (t251 != 1) = false := bne_eq_false_iff_eq.mpr c216
       clear c216
       by_cases c217 : t250 = true
       ·subst c217
        have H1 : (some false) = some r := by rw [if_pos rfl] at H; exact H
        clear H
        have H := H1
        clear H1
        obtain rfl := Option.some.inj H
        go_wp2
        go_ret
        exact ⟨by first | rfl | (simp [errW_none, errW_some] <;> rfl) | (simp only [← hji5]; first | rfl | (simp [errW_none, errW_some] <;> rfl)) | (simp [*, errW_none, errW_some] <;> rfl), by repeat (first | (with_reducible first | exact HB.out | apply below_alloc | apply pw_below_drewN | apply below_drew1 | refine below_set ?_ GE232.out | refine below_set ?_ GE244.out | refine below_set ?_ GE252.out | refine below_set ?_ GE260.out | refine below_set ?_ GE268.out | refine below_set ?_ GE269.out | refine below_set ?_ GE285.out) | exact HB.out)⟩
       ·replace c217 := Bool.eq_false_iff.mpr c217
        subst c217
        have H1 : ((footwayref09_Same.f kj159 t245 t246 t249 0 ([] : List ByteArray) 0).bind fun t294 => (some t294)) = some r := by rw [if_neg (show ¬ (false = true) by decide)] at H; exact H
        clear H
        have H := H1
        clear H1
        replace H := Option.bind_eq_some_iff.mp H
        obtain ⟨t294, A2180, H⟩ := H
        replace H : (some t294) = some r := H
        have A218 := Aside0.mk A2180
        clear A2180
        obtain rfl := Option.some.inj H
        have hnb219 := NB252_232.out
        have hnc219 := NB232_252.out
        have hnb220 := NB252_244.out
        have hnc220 := NB244_252.out
        have hnb221 := NB252_260.out
        have hnc221 := NB260_252.out
        have hnb222 := NB252_268.out
        have hnc222 := NB268_252.out
        have hnb223 := NB252_269.out
        have hnc223 := NB269_252.out
        have hnb224 := NB252_285.out
        have hnc224 := NB285_252.out
        have hcz225_0 : wc.cell? ⟨gb252, 0, none⟩ = some (.int .i64 t245) := (blk_cell BK252.out 0).trans rfl
        have hcz225_1 : wc.cell? ⟨gb252, 1, none⟩ = some (.slice Ao32 t246.length co32) := (blk_cell BK252.out 1).trans rfl
        have hcz225_2 : wc.cell? ⟨gb252, 2, none⟩ = some (.int .i64 t249) := (blk_cell BK252.out 2).trans rfl
        have hfz225_0 := blk_frozen BK252.out 0
        have hfz225_1 := blk_frozen BK252.out 1
        have hfz225_2 := blk_frozen BK252.out 2
        have hnb226 := NB269_232.out
        have hnc226 := NB232_269.out
        have hnb227 := NB269_244.out
        have hnc227 := NB244_269.out
        have hnb228 := NB269_260.out
        have hnc228 := NB260_269.out
        have hnb229 := NB269_268.out
        have hnc229 := NB268_269.out
        have hnb230 := NB269_285.out
        have hnc230 := NB285_269.out
        have hcz231_0 : wc.cell? ⟨gb269, 0, none⟩ = some (.int .i64 0) := (blk_cell BK269.out 0).trans rfl
        have hcz231_1 : wc.cell? ⟨gb269, 1, none⟩ = some (.slice none 0 0) := (blk_cell BK269.out 1).trans rfl
        have hcz231_2 : wc.cell? ⟨gb269, 2, none⟩ = some (.int .i64 0) := (blk_cell BK269.out 2).trans rfl
        have hfz231_0 := blk_frozen BK269.out 0
        have hfz231_1 := blk_frozen BK269.out 1
        have hfz231_2 := blk_frozen BK269.out 2
        go_wp2_with (first | (go_at_call 28; (refine (footwayref09_Same.calls kj159 t245 _ _ t246 t249 0 _ _ ([] : List ByteArray) 0 t294 _ ?side1 ?side2 ?side3 ?side4 A218.out).mono ?_); (case side1 => repeat (first | exact (V_reads' HO_253001.out).2.2 | (with_reducible refine C_alloc ?_ _) | (with_reducible refine C_drewN ?_ _) | (with_reducible refine C_drew ?_))); (case side2 => exact (V_reads' HO_253001.out).2.1); (case side3 => exact C_nil _ _); (case side4 => exact Nat.le_refl _); rintro e w232 ⟨rfl, hb⟩; have n0_ := Aside0.mk (R_below (by (with_reducible repeat (first | apply R_alloc | apply R_drewN | apply R_drew)); exact HO_233001.out) hb); have n1_ := Aside0.mk (R_below (by (with_reducible repeat (first | apply R_alloc | apply R_drewN | apply R_drew)); exact HO_245001.out) hb); have n2_ := Aside0.mk (V_below (by (with_reducible repeat (first | apply V_alloc | apply V_drewN | apply V_drew)); exact HO_253001.out) hb); have n3_ := Aside0.mk (V_below (by (with_reducible repeat (first | apply V_alloc | apply V_drewN | apply V_drew)); exact HO_261001.out) hb); have n4_ := Aside0.mk (R_below (by (with_reducible repeat (first | apply R_alloc | apply R_drewN | apply R_drew)); exact HO_269001.out) hb); have n5_ := Aside0.mk (R_below (by (with_reducible repeat (first | apply R_alloc | apply R_drewN | apply R_drew)); exact HO_286001.out) hb); have n6_ := Aside0.mk (blk_below (g := gb232) (o := .cells #[.int .i64 t233, .slice Ao17 t234.length co17, .int .i64 t237] 35 (0, 0)) (by (with_reducible repeat (first | refine blk_drewN ?_ _ | refine blk_drew ?_ | refine blk_alloc ?_ _)); exact BK232.out) hb); have n7_ := Aside0.mk (blk_below (g := gb244) (o := .cells #[.int .i64 t238, .slice Ao24 t239.length co24, .int .i64 t242] 35 (0, 0)) (by (with_reducible repeat (first | refine blk_drewN ?_ _ | refine blk_drew ?_ | refine blk_alloc ?_ _)); exact BK244.out) hb); have n8_ := Aside0.mk (blk_below (g := gb252) (o := .cells #[.int .i64 t245, .slice Ao32 t246.length co32, .int .i64 t249] 35 (0, 0)) (by (with_reducible repeat (first | refine blk_drewN ?_ _ | refine blk_drew ?_ | refine blk_alloc ?_ _)); exact BK252.out) hb); have n9_ := Aside0.mk (blk_below (g := gb260) (o := .cells #[.int .i64 t253, .slice Ao41 t254.length co41, .int .i64 t257] 35 (0, 0)) (by (with_reducible repeat (first | refine blk_drewN ?_ _ | refine blk_drew ?_ | refine blk_alloc ?_ _)); exact BK260.out) hb); have n10_ := Aside0.mk (blk_below (g := gb268) (o := .cells #[.int .i64 t261, .slice Ao50 t262.length co50, .int .i64 t265] 35 (0, 0)) (by (with_reducible repeat (first | refine blk_drewN ?_ _ | refine blk_drew ?_ | refine blk_alloc ?_ _)); exact BK268.out) hb); have n11_ := Aside0.mk (blk_below (g := gb269) (o := .cells #[.int .i64 0, .slice none 0 0, .int .i64 0] 35 (0, 0)) (by (with_reducible repeat (first | refine blk_drewN ?_ _ | refine blk_drew ?_ | refine blk_alloc ?_ _)); exact BK269.out) hb); have n12_ := Aside0.mk (blk_below (g := gb285) (o := .cells #[.int .i64 t279, .slice Ao141 t280.length co141, .int .i64 t283] 35 (0, 0)) (by (with_reducible repeat (first | refine blk_drewN ?_ _ | refine blk_drew ?_ | refine blk_alloc ?_ _)); exact BK285.out) hb); have n13_ := Aside0.mk (below_step (by repeat (first | (with_reducible first | exact HB.out | apply below_alloc | apply pw_below_drewN | apply below_drew1 | refine below_set ?_ GE232.out | refine below_set ?_ GE244.out | refine below_set ?_ GE252.out | refine below_set ?_ GE260.out | refine below_set ?_ GE268.out | refine below_set ?_ GE269.out | refine below_set ?_ GE285.out) | exact HB.out)) hb); clear HO_233001; clear HO_245001; clear HO_253001; clear HO_261001; clear HO_269001; clear HO_286001; clear BK232; clear BK244; clear BK252; clear BK260; clear BK268; clear BK269; clear BK285; clear HB; have HO_233001 := n0_; have HO_245001 := n1_; have HO_253001 := n2_; have HO_261001 := n3_; have HO_269001 := n4_; have HO_286001 := n5_; have BK232 := n6_; have BK244 := n7_; have BK252 := n8_; have BK260 := n9_; have BK268 := n10_; have BK269 := n11_; have BK285 := n12_; have HB := n13_; clear n0_ n1_ n2_ n3_ n4_ n5_ n6_ n7_ n8_ n9_ n10_ n11_ n12_ n13_; (try clear hb); (try clear hb2); (try clear hk); (try clear hi)))
        go_ret
        exact ⟨by first | rfl | (simp [errW_none, errW_some] <;> rfl) | (simp only [← hji5]; first | rfl | (simp [errW_none, errW_some] <;> rfl)) | (simp [*, errW_none, errW_some] <;> rfl), by repeat (first | (with_reducible first | exact HB.out | apply below_alloc | apply pw_below_drewN | apply below_drew1 | refine below_set ?_ GE232.out | refine below_set ?_ GE244.out | refine below_set ?_ GE252.out | refine below_set ?_ GE260.out | refine below_set ?_ GE268.out | refine below_set ?_ GE269.out | refine below_set ?_ GE285.out) | exact HB.out)⟩
      ·rw [if_neg c216] at H
       have c216b0 : (t251 == 1) = false := beq_eq_false_iff_ne.mpr c216
       have c216b1 : (t251 != 1) = true := bne_iff_ne.mpr c216
       obtain rfl := Option.some.inj H
       go_wp2
       go_ret
       exact ⟨by first | rfl | (simp [errW_none, errW_some] <;> rfl) | (simp only [← hji5]; first | rfl | (simp [errW_none, errW_some] <;> rfl)) | (simp [*, errW_none, errW_some] <;> rfl), by repeat (first | (with_reducible first | exact HB.out | apply below_alloc | apply pw_below_drewN | apply below_drew1 | refine below_set ?_ GE232.out | refine below_set ?_ GE244.out | refine below_set ?_ GE252.out | refine below_set ?_ GE260.out | refine below_set ?_ GE268.out | refine below_set ?_ GE269.out | refine below_set ?_ GE285.out) | exact HB.out)⟩
     ·rw [if_neg c215] at H
      have c215b0 : decide (114 < (zs.size : Int)) = false := decide_eq_false c215
      have c215b1 : decide (114 < zs.size) = false := decide_eq_false (by omega)
      clear c215
      replace H := Option.bind_eq_some_iff.mp H
      obtain ⟨⟨t295, t296, t299, t300⟩, A2330, H⟩ := H
      replace H : (if t251 = 0 then (if (t250 == t300) = true then ((footwayref09_Same.f kj159 t245 t246 t249 t295 t296 t299).bind fun t302 => (some t302)) else (some false)) else (some false)) = some r := H
      have A233 := Aside0.mk A2330
      clear A2330
      by_cases c234 : t251 = 0
      ·rw [if_pos c234] at H
       have c234b0 : (t251 == 0) = true := beq_iff_eq.mpr c234
       have c234b1 : (t251 != 0) = false := bne_eq_false_iff_eq.mpr c234
       clear c234
       by_cases c235 : (t250 == t300) = true
       ·rw [if_pos c235] at H
        have c235b0 : (t250 == t300) = true := c235
        (try (have c235b1 : decide (t250 = t300) = true := by simpa using c235))
        (try (have c235b2 : (t250 == t300) = true := by simpa using c235))
        clear c235
        replace H := Option.bind_eq_some_iff.mp H
        obtain ⟨t302, A2360, H⟩ := H
        replace H : (some t302) = some r := H
        have A236 := Aside0.mk A2360
        clear A2360
        obtain rfl := Option.some.inj H
        have hnb237 := NB232_244.out
        have hnc237 := NB244_232.out
        have hnb238 := NB232_252.out
        have hnc238 := NB252_232.out
        have hnb239 := NB232_260.out
        have hnc239 := NB260_232.out
        have hnb240 := NB232_268.out
        have hnc240 := NB268_232.out
        have hnb241 := NB232_269.out
        have hnc241 := NB269_232.out
        have hnb242 := NB232_285.out
        have hnc242 := NB285_232.out
        have hcz243_0 : wc.cell? ⟨gb232, 0, none⟩ = some (.int .i64 t233) := (blk_cell BK232.out 0).trans rfl
        have hcz243_1 : wc.cell? ⟨gb232, 1, none⟩ = some (.slice Ao17 t234.length co17) := (blk_cell BK232.out 1).trans rfl
        have hcz243_2 : wc.cell? ⟨gb232, 2, none⟩ = some (.int .i64 t237) := (blk_cell BK232.out 2).trans rfl
        have hfz243_0 := blk_frozen BK232.out 0
        have hfz243_1 := blk_frozen BK232.out 1
        have hfz243_2 := blk_frozen BK232.out 2
        go_wp2_with (first | ((with_reducible refine gate_callee (f := 30) rfl ?_); refine goesL_ (some 201) rfl rfl Try.func30 (by kernel_rfl) rfl #[.agg #[.int .i64 t233, .slice Ao17 t234.length co17, .int .i64 t237], .string zs] rfl (by (try simp only [List.map_toArray, List.map_cons, List.map_nil]); first | done | (simp only [hji5]; rfl) | rfl | (simp only [List.length_drop, List.length_take]; rfl)) ?_; (with_reducible refine (footwayref09_Push.calls t233 (fun k_ => some k_ = (.slice Ao17 t234.length co17 : Value).ownBlock) _ _ t234 t237 zs t295 t296 t299 t300 _ ?side1 A233.out).mono ?_); (case side1 => exact R_V (R_tight rfl (R_types (R_types (R_types (R_types (R_types (R_types (R_types (HO_233001.out) BK232.out (by decide)) BK244.out (by decide)) BK252.out (by decide)) BK260.out (by decide)) BK268.out (by decide)) BK269.out (by decide)) BK285.out (by decide)))); rintro e w244 ⟨v297, rfl, ho0, hb⟩; refine ⟨_, rfl, ?_⟩; have n0_ := Aside0.mk (R_below (by (with_reducible repeat (first | apply R_alloc | apply R_drewN | apply R_drew)); exact HO_233001.out) hb); have n1_ := Aside0.mk (R_below (by (with_reducible repeat (first | apply R_alloc | apply R_drewN | apply R_drew)); exact HO_245001.out) hb); have n2_ := Aside0.mk (V_below (by (with_reducible repeat (first | apply V_alloc | apply V_drewN | apply V_drew)); exact HO_253001.out) hb); have n3_ := Aside0.mk (V_below (by (with_reducible repeat (first | apply V_alloc | apply V_drewN | apply V_drew)); exact HO_261001.out) hb); have n4_ := Aside0.mk (R_below (by (with_reducible repeat (first | apply R_alloc | apply R_drewN | apply R_drew)); exact HO_269001.out) hb); have n5_ := Aside0.mk (R_below (by (with_reducible repeat (first | apply R_alloc | apply R_drewN | apply R_drew)); exact HO_286001.out) hb); have n6_ := Aside0.mk (V_lower (V_mono (ok' := fun k_ => some k_ ≠ (.slice Ao24 t239.length co24 : Value).ownBlock ∧ some k_ ≠ (.slice Ao50 t262.length co50 : Value).ownBlock ∧ some k_ ≠ (.slice Ao141 t280.length co141 : Value).ownBlock ∧ k_ ≠ gb232 ∧ k_ ≠ gb244 ∧ k_ ≠ gb252 ∧ k_ ≠ gb260 ∧ k_ ≠ gb268 ∧ k_ ≠ gb269 ∧ k_ ≠ gb285) ho0 (fun k_ hk_ => ⟨Or.elim hk_ (fun hs_ => ((R_types (R_types (R_types (R_types (R_types (R_types (R_types (HO_233001.out) BK232.out (by decide)) BK244.out (by decide)) BK252.out (by decide)) BK260.out (by decide)) BK268.out (by decide)) BK269.out (by decide)) BK285.out (by decide)).1 k_ hs_.symm).1.1.1.1.1.1.1.1) (fun hn_ => (Kd.fresh' (R_lt (by (with_reducible repeat (first | apply R_alloc | apply R_drewN | apply R_drew)); exact HO_245001.out)) k_ hn_)), Or.elim hk_ (fun hs_ => ((R_types (R_types (R_types (R_types (R_types (R_types (R_types (HO_233001.out) BK232.out (by decide)) BK244.out (by decide)) BK252.out (by decide)) BK260.out (by decide)) BK268.out (by decide)) BK269.out (by decide)) BK285.out (by decide)).1 k_ hs_.symm).1.1.1.1.1.1.1.2.1) (fun hn_ => (Kd.fresh' (R_lt (by (with_reducible repeat (first | apply R_alloc | apply R_drewN | apply R_drew)); exact HO_269001.out)) k_ hn_)), Or.elim hk_ (fun hs_ => ((R_types (R_types (R_types (R_types (R_types (R_types (R_types (HO_233001.out) BK232.out (by decide)) BK244.out (by decide)) BK252.out (by decide)) BK260.out (by decide)) BK268.out (by decide)) BK269.out (by decide)) BK285.out (by decide)).1 k_ hs_.symm).1.1.1.1.1.1.1.2.2) (fun hn_ => (Kd.fresh' (R_lt (by (with_reducible repeat (first | apply R_alloc | apply R_drewN | apply R_drew)); exact HO_286001.out)) k_ hn_)), Or.elim hk_ (fun hs_ => ((R_types (R_types (R_types (R_types (R_types (R_types (R_types (HO_233001.out) BK232.out (by decide)) BK244.out (by decide)) BK252.out (by decide)) BK260.out (by decide)) BK268.out (by decide)) BK269.out (by decide)) BK285.out (by decide)).1 k_ hs_.symm).1.1.1.1.1.1.2) (fun hn_ => (Kd.freshB (g := gb232) (o := .cells #[.int .i64 t233, .slice Ao17 t234.length co17, .int .i64 t237] 35 (0, 0)) (by (with_reducible repeat (first | refine blk_drewN ?_ _ | refine blk_drew ?_ | refine blk_alloc ?_ _)); exact BK232.out) k_ hn_)), Or.elim hk_ (fun hs_ => ((R_types (R_types (R_types (R_types (R_types (R_types (R_types (HO_233001.out) BK232.out (by decide)) BK244.out (by decide)) BK252.out (by decide)) BK260.out (by decide)) BK268.out (by decide)) BK269.out (by decide)) BK285.out (by decide)).1 k_ hs_.symm).1.1.1.1.1.2) (fun hn_ => (Kd.freshB (g := gb244) (o := .cells #[.int .i64 t238, .slice Ao24 t239.length co24, .int .i64 t242] 35 (0, 0)) (by (with_reducible repeat (first | refine blk_drewN ?_ _ | refine blk_drew ?_ | refine blk_alloc ?_ _)); exact BK244.out) k_ hn_)), Or.elim hk_ (fun hs_ => ((R_types (R_types (R_types (R_types (R_types (R_types (R_types (HO_233001.out) BK232.out (by decide)) BK244.out (by decide)) BK252.out (by decide)) BK260.out (by decide)) BK268.out (by decide)) BK269.out (by decide)) BK285.out (by decide)).1 k_ hs_.symm).1.1.1.1.2) (fun hn_ => (Kd.freshB (g := gb252) (o := .cells #[.int .i64 t245, .slice Ao32 t246.length co32, .int .i64 t249] 35 (0, 0)) (by (with_reducible repeat (first | refine blk_drewN ?_ _ | refine blk_drew ?_ | refine blk_alloc ?_ _)); exact BK252.out) k_ hn_)), Or.elim hk_ (fun hs_ => ((R_types (R_types (R_types (R_types (R_types (R_types (R_types (HO_233001.out) BK232.out (by decide)) BK244.out (by decide)) BK252.out (by decide)) BK260.out (by decide)) BK268.out (by decide)) BK269.out (by decide)) BK285.out (by decide)).1 k_ hs_.symm).1.1.1.2) (fun hn_ => (Kd.freshB (g := gb260) (o := .cells #[.int .i64 t253, .slice Ao41 t254.length co41, .int .i64 t257] 35 (0, 0)) (by (with_reducible repeat (first | refine blk_drewN ?_ _ | refine blk_drew ?_ | refine blk_alloc ?_ _)); exact BK260.out) k_ hn_)), Or.elim hk_ (fun hs_ => ((R_types (R_types (R_types (R_types (R_types (R_types (R_types (HO_233001.out) BK232.out (by decide)) BK244.out (by decide)) BK252.out (by decide)) BK260.out (by decide)) BK268.out (by decide)) BK269.out (by decide)) BK285.out (by decide)).1 k_ hs_.symm).1.1.2) (fun hn_ => (Kd.freshB (g := gb268) (o := .cells #[.int .i64 t261, .slice Ao50 t262.length co50, .int .i64 t265] 35 (0, 0)) (by (with_reducible repeat (first | refine blk_drewN ?_ _ | refine blk_drew ?_ | refine blk_alloc ?_ _)); exact BK268.out) k_ hn_)), Or.elim hk_ (fun hs_ => ((R_types (R_types (R_types (R_types (R_types (R_types (R_types (HO_233001.out) BK232.out (by decide)) BK244.out (by decide)) BK252.out (by decide)) BK260.out (by decide)) BK268.out (by decide)) BK269.out (by decide)) BK285.out (by decide)).1 k_ hs_.symm).1.2) (fun hn_ => (Kd.freshB (g := gb269) (o := .cells #[.int .i64 0, .slice none 0 0, .int .i64 0] 35 (0, 0)) (by (with_reducible repeat (first | refine blk_drewN ?_ _ | refine blk_drew ?_ | refine blk_alloc ?_ _)); exact BK269.out) k_ hn_)), Or.elim hk_ (fun hs_ => ((R_types (R_types (R_types (R_types (R_types (R_types (R_types (HO_233001.out) BK232.out (by decide)) BK244.out (by decide)) BK252.out (by decide)) BK260.out (by decide)) BK268.out (by decide)) BK269.out (by decide)) BK285.out (by decide)).1 k_ hs_.symm).2) (fun hn_ => (Kd.freshB (g := gb285) (o := .cells #[.int .i64 t279, .slice Ao141 t280.length co141, .int .i64 t283] 35 (0, 0)) (by (with_reducible repeat (first | refine blk_drewN ?_ _ | refine blk_drew ?_ | refine blk_alloc ?_ _)); exact BK285.out) k_ hn_))⟩)) (below_size (by repeat (first | (with_reducible first | exact HB.out | apply below_alloc | apply pw_below_drewN | apply below_drew1 | refine below_set ?_ GE232.out | refine below_set ?_ GE244.out | refine below_set ?_ GE252.out | refine below_set ?_ GE260.out | refine below_set ?_ GE268.out | refine below_set ?_ GE269.out | refine below_set ?_ GE285.out) | exact HB.out)))); have n7_ := Aside0.mk (blk_below (g := gb232) (o := .cells #[.int .i64 t233, .slice Ao17 t234.length co17, .int .i64 t237] 35 (0, 0)) (by (with_reducible repeat (first | refine blk_drewN ?_ _ | refine blk_drew ?_ | refine blk_alloc ?_ _)); exact BK232.out) hb); have n8_ := Aside0.mk (blk_below (g := gb244) (o := .cells #[.int .i64 t238, .slice Ao24 t239.length co24, .int .i64 t242] 35 (0, 0)) (by (with_reducible repeat (first | refine blk_drewN ?_ _ | refine blk_drew ?_ | refine blk_alloc ?_ _)); exact BK244.out) hb); have n9_ := Aside0.mk (blk_below (g := gb252) (o := .cells #[.int .i64 t245, .slice Ao32 t246.length co32, .int .i64 t249] 35 (0, 0)) (by (with_reducible repeat (first | refine blk_drewN ?_ _ | refine blk_drew ?_ | refine blk_alloc ?_ _)); exact BK252.out) hb); have n10_ := Aside0.mk (blk_below (g := gb260) (o := .cells #[.int .i64 t253, .slice Ao41 t254.length co41, .int .i64 t257] 35 (0, 0)) (by (with_reducible repeat (first | refine blk_drewN ?_ _ | refine blk_drew ?_ | refine blk_alloc ?_ _)); exact BK260.out) hb); have n11_ := Aside0.mk (blk_below (g := gb268) (o := .cells #[.int .i64 t261, .slice Ao50 t262.length co50, .int .i64 t265] 35 (0, 0)) (by (with_reducible repeat (first | refine blk_drewN ?_ _ | refine blk_drew ?_ | refine blk_alloc ?_ _)); exact BK268.out) hb); have n12_ := Aside0.mk (blk_below (g := gb269) (o := .cells #[.int .i64 0, .slice none 0 0, .int .i64 0] 35 (0, 0)) (by (with_reducible repeat (first | refine blk_drewN ?_ _ | refine blk_drew ?_ | refine blk_alloc ?_ _)); exact BK269.out) hb); have n13_ := Aside0.mk (blk_below (g := gb285) (o := .cells #[.int .i64 t279, .slice Ao141 t280.length co141, .int .i64 t283] 35 (0, 0)) (by (with_reducible repeat (first | refine blk_drewN ?_ _ | refine blk_drew ?_ | refine blk_alloc ?_ _)); exact BK285.out) hb); have n14_ := Aside0.mk (below_step (by repeat (first | (with_reducible first | exact HB.out | apply below_alloc | apply pw_below_drewN | apply below_drew1 | refine below_set ?_ GE232.out | refine below_set ?_ GE244.out | refine below_set ?_ GE252.out | refine below_set ?_ GE260.out | refine below_set ?_ GE268.out | refine below_set ?_ GE269.out | refine below_set ?_ GE285.out) | exact HB.out)) hb); clear HO_233001; clear HO_245001; clear HO_253001; clear HO_261001; clear HO_269001; clear HO_286001; clear BK232; clear BK244; clear BK252; clear BK260; clear BK268; clear BK269; clear BK285; clear HB; have HO_233001 := n0_; have HO_245001 := n1_; have HO_253001 := n2_; have HO_261001 := n3_; have HO_269001 := n4_; have HO_286001 := n5_; have HO298 := n6_; have BK232 := n7_; have BK244 := n8_; have BK252 := n9_; have BK260 := n10_; have BK268 := n11_; have BK269 := n12_; have BK285 := n13_; have HB := n14_; clear n0_ n1_ n2_ n3_ n4_ n5_ n6_ n7_ n8_ n9_ n10_ n11_ n12_ n13_ n14_; (try clear hb); (try clear hb2); (try clear hk); (try clear hi); (try clear ho0)) | ((with_reducible refine gate_dst (N := 21) rfl ?_); refine box_event ?hg (N := 21) ?hd (cs := #[.int .i64 0, .slice none 0 0, .int .i64 0]) (t := 35) ?hr ?_; (case hd => rfl); (case hg => rfl); (case hr => first | (go_simp; done) | (go_simp; rfl)); intro gb301 hg w245 hbox hb; have n0_ := Aside0.mk (R_below (by (with_reducible repeat (first | apply R_alloc | apply R_drewN | apply R_drew)); exact HO_233001.out) hb); have n1_ := Aside0.mk (R_below (by (with_reducible repeat (first | apply R_alloc | apply R_drewN | apply R_drew)); exact HO_245001.out) hb); have n2_ := Aside0.mk (V_below (V_elderB (by (with_reducible repeat (first | apply V_alloc | apply V_drewN | apply V_drew)); exact HO_253001.out) gb301 (Nat.le_of_eq hg.symm)) hb); have n3_ := Aside0.mk (V_below (V_elderB (by (with_reducible repeat (first | apply V_alloc | apply V_drewN | apply V_drew)); exact HO_261001.out) gb301 (Nat.le_of_eq hg.symm)) hb); have n4_ := Aside0.mk (R_below (by (with_reducible repeat (first | apply R_alloc | apply R_drewN | apply R_drew)); exact HO_269001.out) hb); have n5_ := Aside0.mk (R_below (by (with_reducible repeat (first | apply R_alloc | apply R_drewN | apply R_drew)); exact HO_286001.out) hb); have n6_ := Aside0.mk (V_below (V_elderB (by (with_reducible repeat (first | apply V_alloc | apply V_drewN | apply V_drew)); exact HO298.out) gb301 (Nat.le_of_eq hg.symm)) hb); have n7_ := Aside0.mk (blk_below (g := gb232) (o := .cells #[.int .i64 t233, .slice Ao17 t234.length co17, .int .i64 t237] 35 (0, 0)) (by (with_reducible repeat (first | refine blk_drewN ?_ _ | refine blk_drew ?_ | refine blk_alloc ?_ _)); exact BK232.out) hb); have n8_ := Aside0.mk (blk_below (g := gb244) (o := .cells #[.int .i64 t238, .slice Ao24 t239.length co24, .int .i64 t242] 35 (0, 0)) (by (with_reducible repeat (first | refine blk_drewN ?_ _ | refine blk_drew ?_ | refine blk_alloc ?_ _)); exact BK244.out) hb); have n9_ := Aside0.mk (blk_below (g := gb252) (o := .cells #[.int .i64 t245, .slice Ao32 t246.length co32, .int .i64 t249] 35 (0, 0)) (by (with_reducible repeat (first | refine blk_drewN ?_ _ | refine blk_drew ?_ | refine blk_alloc ?_ _)); exact BK252.out) hb); have n10_ := Aside0.mk (blk_below (g := gb260) (o := .cells #[.int .i64 t253, .slice Ao41 t254.length co41, .int .i64 t257] 35 (0, 0)) (by (with_reducible repeat (first | refine blk_drewN ?_ _ | refine blk_drew ?_ | refine blk_alloc ?_ _)); exact BK260.out) hb); have n11_ := Aside0.mk (blk_below (g := gb268) (o := .cells #[.int .i64 t261, .slice Ao50 t262.length co50, .int .i64 t265] 35 (0, 0)) (by (with_reducible repeat (first | refine blk_drewN ?_ _ | refine blk_drew ?_ | refine blk_alloc ?_ _)); exact BK268.out) hb); have n12_ := Aside0.mk (blk_below (g := gb269) (o := .cells #[.int .i64 0, .slice none 0 0, .int .i64 0] 35 (0, 0)) (by (with_reducible repeat (first | refine blk_drewN ?_ _ | refine blk_drew ?_ | refine blk_alloc ?_ _)); exact BK269.out) hb); have n13_ := Aside0.mk (blk_below (g := gb285) (o := .cells #[.int .i64 t279, .slice Ao141 t280.length co141, .int .i64 t283] 35 (0, 0)) (by (with_reducible repeat (first | refine blk_drewN ?_ _ | refine blk_drew ?_ | refine blk_alloc ?_ _)); exact BK285.out) hb); have n14_ := Aside0.mk (below_step (by repeat (first | (with_reducible first | exact HB.out | apply below_alloc | apply pw_below_drewN | apply below_drew1 | refine below_set ?_ GE232.out | refine below_set ?_ GE244.out | refine below_set ?_ GE252.out | refine below_set ?_ GE260.out | refine below_set ?_ GE268.out | refine below_set ?_ GE269.out | refine below_set ?_ GE285.out) | exact HB.out)) hb); have n15_ := Aside0.mk (hbox); have n16_ := Aside0.mk ((by rw [hg]; exact (below_size (by repeat (first | (with_reducible first | exact HB.out | apply below_alloc | apply pw_below_drewN | apply below_drew1 | refine below_set ?_ GE232.out | refine below_set ?_ GE244.out | refine below_set ?_ GE252.out | refine below_set ?_ GE260.out | refine below_set ?_ GE268.out | refine below_set ?_ GE269.out | refine below_set ?_ GE285.out) | exact HB.out))) : w.heap.size ≤ gb301)); have n17_ := Aside0.mk ((by rw [hg]; exact (below_size (by repeat (first | (with_reducible first | exact HB.out | apply below_alloc | apply pw_below_drewN | apply below_drew1 | refine below_set ?_ GE232.out | refine below_set ?_ GE244.out | refine below_set ?_ GE252.out | refine below_set ?_ GE260.out | refine below_set ?_ GE268.out | refine below_set ?_ GE269.out | refine below_set ?_ GE285.out) | exact HB.out))) : w.heap.size ≤ gb301)); have n18_ := Aside0.mk ((by rw [hg]; exact Nat.ne_of_lt (blk_lt (g := gb232) (o := .cells #[.int .i64 t233, .slice Ao17 t234.length co17, .int .i64 t237] 35 (0, 0)) (by (with_reducible repeat (first | refine blk_drewN ?_ _ | refine blk_drew ?_ | refine blk_alloc ?_ _)); exact BK232.out)) : gb232 ≠ gb301)); have n19_ := Aside0.mk ((by rw [hg]; exact Nat.ne_of_gt (blk_lt (g := gb232) (o := .cells #[.int .i64 t233, .slice Ao17 t234.length co17, .int .i64 t237] 35 (0, 0)) (by (with_reducible repeat (first | refine blk_drewN ?_ _ | refine blk_drew ?_ | refine blk_alloc ?_ _)); exact BK232.out)) : gb301 ≠ gb232)); have n20_ := Aside0.mk ((by rw [hg]; exact Nat.ne_of_lt (blk_lt (g := gb244) (o := .cells #[.int .i64 t238, .slice Ao24 t239.length co24, .int .i64 t242] 35 (0, 0)) (by (with_reducible repeat (first | refine blk_drewN ?_ _ | refine blk_drew ?_ | refine blk_alloc ?_ _)); exact BK244.out)) : gb244 ≠ gb301)); have n21_ := Aside0.mk ((by rw [hg]; exact Nat.ne_of_gt (blk_lt (g := gb244) (o := .cells #[.int .i64 t238, .slice Ao24 t239.length co24, .int .i64 t242] 35 (0, 0)) (by (with_reducible repeat (first | refine blk_drewN ?_ _ | refine blk_drew ?_ | refine blk_alloc ?_ _)); exact BK244.out)) : gb301 ≠ gb244)); have n22_ := Aside0.mk ((by rw [hg]; exact Nat.ne_of_lt (blk_lt (g := gb252) (o := .cells #[.int .i64 t245, .slice Ao32 t246.length co32, .int .i64 t249] 35 (0, 0)) (by (with_reducible repeat (first | refine blk_drewN ?_ _ | refine blk_drew ?_ | refine blk_alloc ?_ _)); exact BK252.out)) : gb252 ≠ gb301)); have n23_ := Aside0.mk ((by rw [hg]; exact Nat.ne_of_gt (blk_lt (g := gb252) (o := .cells #[.int .i64 t245, .slice Ao32 t246.length co32, .int .i64 t249] 35 (0, 0)) (by (with_reducible repeat (first | refine blk_drewN ?_ _ | refine blk_drew ?_ | refine blk_alloc ?_ _)); exact BK252.out)) : gb301 ≠ gb252)); have n24_ := Aside0.mk ((by rw [hg]; exact Nat.ne_of_lt (blk_lt (g := gb260) (o := .cells #[.int .i64 t253, .slice Ao41 t254.length co41, .int .i64 t257] 35 (0, 0)) (by (with_reducible repeat (first | refine blk_drewN ?_ _ | refine blk_drew ?_ | refine blk_alloc ?_ _)); exact BK260.out)) : gb260 ≠ gb301)); have n25_ := Aside0.mk ((by rw [hg]; exact Nat.ne_of_gt (blk_lt (g := gb260) (o := .cells #[.int .i64 t253, .slice Ao41 t254.length co41, .int .i64 t257] 35 (0, 0)) (by (with_reducible repeat (first | refine blk_drewN ?_ _ | refine blk_drew ?_ | refine blk_alloc ?_ _)); exact BK260.out)) : gb301 ≠ gb260)); have n26_ := Aside0.mk ((by rw [hg]; exact Nat.ne_of_lt (blk_lt (g := gb268) (o := .cells #[.int .i64 t261, .slice Ao50 t262.length co50, .int .i64 t265] 35 (0, 0)) (by (with_reducible repeat (first | refine blk_drewN ?_ _ | refine blk_drew ?_ | refine blk_alloc ?_ _)); exact BK268.out)) : gb268 ≠ gb301)); have n27_ := Aside0.mk ((by rw [hg]; exact Nat.ne_of_gt (blk_lt (g := gb268) (o := .cells #[.int .i64 t261, .slice Ao50 t262.length co50, .int .i64 t265] 35 (0, 0)) (by (with_reducible repeat (first | refine blk_drewN ?_ _ | refine blk_drew ?_ | refine blk_alloc ?_ _)); exact BK268.out)) : gb301 ≠ gb268)); have n28_ := Aside0.mk ((by rw [hg]; exact Nat.ne_of_lt (blk_lt (g := gb269) (o := .cells #[.int .i64 0, .slice none 0 0, .int .i64 0] 35 (0, 0)) (by (with_reducible repeat (first | refine blk_drewN ?_ _ | refine blk_drew ?_ | refine blk_alloc ?_ _)); exact BK269.out)) : gb269 ≠ gb301)); have n29_ := Aside0.mk ((by rw [hg]; exact Nat.ne_of_gt (blk_lt (g := gb269) (o := .cells #[.int .i64 0, .slice none 0 0, .int .i64 0] 35 (0, 0)) (by (with_reducible repeat (first | refine blk_drewN ?_ _ | refine blk_drew ?_ | refine blk_alloc ?_ _)); exact BK269.out)) : gb301 ≠ gb269)); have n30_ := Aside0.mk ((by rw [hg]; exact Nat.ne_of_lt (blk_lt (g := gb285) (o := .cells #[.int .i64 t279, .slice Ao141 t280.length co141, .int .i64 t283] 35 (0, 0)) (by (with_reducible repeat (first | refine blk_drewN ?_ _ | refine blk_drew ?_ | refine blk_alloc ?_ _)); exact BK285.out)) : gb285 ≠ gb301)); have n31_ := Aside0.mk ((by rw [hg]; exact Nat.ne_of_gt (blk_lt (g := gb285) (o := .cells #[.int .i64 t279, .slice Ao141 t280.length co141, .int .i64 t283] 35 (0, 0)) (by (with_reducible repeat (first | refine blk_drewN ?_ _ | refine blk_drew ?_ | refine blk_alloc ?_ _)); exact BK285.out)) : gb301 ≠ gb285)); clear HO_233001; clear HO_245001; clear HO_253001; clear HO_261001; clear HO_269001; clear HO_286001; clear HO298; clear BK232; clear BK244; clear BK252; clear BK260; clear BK268; clear BK269; clear BK285; clear HB; have HO_233001 := n0_; have HO_245001 := n1_; have HO_253001 := n2_; have HO_261001 := n3_; have HO_269001 := n4_; have HO_286001 := n5_; have HO298 := n6_; have BK232 := n7_; have BK244 := n8_; have BK252 := n9_; have BK260 := n10_; have BK268 := n11_; have BK269 := n12_; have BK285 := n13_; have HB := n14_; have BK301 := n15_; have GW301 := n16_; have GE301 := n17_; have NB232_301 := n18_; have NB301_232 := n19_; have NB244_301 := n20_; have NB301_244 := n21_; have NB252_301 := n22_; have NB301_252 := n23_; have NB260_301 := n24_; have NB301_260 := n25_; have NB268_301 := n26_; have NB301_268 := n27_; have NB269_301 := n28_; have NB301_269 := n29_; have NB285_301 := n30_; have NB301_285 := n31_; clear n0_ n1_ n2_ n3_ n4_ n5_ n6_ n7_ n8_ n9_ n10_ n11_ n12_ n13_ n14_ n15_ n16_ n17_ n18_ n19_ n20_ n21_ n22_ n23_ n24_ n25_ n26_ n27_ n28_ n29_ n30_ n31_; clear hb hbox hg; have hnb246 := NB301_232.out; have hnc246 := NB232_301.out; have hnb247 := NB301_244.out; have hnc247 := NB244_301.out; have hnb248 := NB301_252.out; have hnc248 := NB252_301.out; have hnb249 := NB301_260.out; have hnc249 := NB260_301.out; have hnb250 := NB301_268.out; have hnc250 := NB268_301.out; have hnb251 := NB301_269.out; have hnc251 := NB269_301.out; have hnb252 := NB301_285.out; have hnc252 := NB285_301.out; have hcz253_0 : w245.cell? ⟨gb301, 0, none⟩ = some (.int .i64 0) := (blk_cell BK301.out 0).trans rfl; have hcz253_1 : w245.cell? ⟨gb301, 1, none⟩ = some (.slice none 0 0) := (blk_cell BK301.out 1).trans rfl; have hcz253_2 : w245.cell? ⟨gb301, 2, none⟩ = some (.int .i64 0) := (blk_cell BK301.out 2).trans rfl; have hfz253_0 := blk_frozen BK301.out 0; have hfz253_1 := blk_frozen BK301.out 1; have hfz253_2 := blk_frozen BK301.out 2; obtain ⟨Ao254, co254, eo254⟩ := V_slice HO298.out; subst eo254; have hnb255 := NB252_244.out; have hnc255 := NB244_252.out; have hnb256 := NB252_260.out; have hnc256 := NB260_252.out; have hnb257 := NB252_268.out; have hnc257 := NB268_252.out; have hnb258 := NB252_269.out; have hnc258 := NB269_252.out; have hnb259 := NB252_285.out; have hnc259 := NB285_252.out; have hcz260_0 : w245.cell? ⟨gb252, 0, none⟩ = some (.int .i64 t245) := (blk_cell BK252.out 0).trans rfl; have hcz260_1 : w245.cell? ⟨gb252, 1, none⟩ = some (.slice Ao32 t246.length co32) := (blk_cell BK252.out 1).trans rfl; have hcz260_2 : w245.cell? ⟨gb252, 2, none⟩ = some (.int .i64 t249) := (blk_cell BK252.out 2).trans rfl; have hfz260_0 := blk_frozen BK252.out 0; have hfz260_1 := blk_frozen BK252.out 1; have hfz260_2 := blk_frozen BK252.out 2) | (go_at_call 28; (with_reducible refine (footwayref09_Same.calls kj159 t245 _ _ t246 t249 t295 _ _ t296 t299 t302 _ ?side1 ?side2 ?side3 ?side4 A236.out).mono ?_); (case side1 => refine (V_reads' (e := 9) (base := w.heap.size) (ok := fun k_ => ((some k_ ≠ (.slice Ao24 t239.length co24 : Value).ownBlock ∧ (some k_ ≠ (.slice Ao50 t262.length co50 : Value).ownBlock ∧ (some k_ ≠ (.slice Ao141 t280.length co141 : Value).ownBlock ∧ (k_ ≠ gb232 ∧ (k_ ≠ gb244 ∧ (k_ ≠ gb252 ∧ (k_ ≠ gb260 ∧ (k_ ≠ gb268 ∧ (k_ ≠ gb269 ∧ k_ ≠ gb285))))))))) ∧ k_ ≠ gb301)) (n := t246.length) (c := co32) ?_).2.2; exact (by (with_reducible repeat (first | apply V_alloc | apply V_drewN | apply V_drew)); exact (V_mono (V_far (p := ⟨gb301, 2, none⟩) (V_far (p := ⟨gb301, 1, none⟩) (V_far (p := ⟨gb301, 0, none⟩) (V_mono HO_253001.out (fun k_ hk => (⟨hk, hk.2⟩ : _ ∧ k_ ≠ gb301))) (fun _ hk => hk.2) (.int .i64 t295)) (fun _ hk => hk.2) (.slice Ao254 t296.length co254)) (fun _ hk => hk.2) (.int .i64 t299)) (fun _ h_ => h_.1)))); (case side2 => exact (V_reads' HO_253001.out).2.1); (case side3 => refine (V_reads' (e := 9) (base := w.heap.size) (ok := fun k_ => ((some k_ ≠ (.slice Ao24 t239.length co24 : Value).ownBlock ∧ (some k_ ≠ (.slice Ao50 t262.length co50 : Value).ownBlock ∧ (some k_ ≠ (.slice Ao141 t280.length co141 : Value).ownBlock ∧ (k_ ≠ gb232 ∧ (k_ ≠ gb244 ∧ (k_ ≠ gb252 ∧ (k_ ≠ gb260 ∧ (k_ ≠ gb268 ∧ (k_ ≠ gb269 ∧ k_ ≠ gb285))))))))) ∧ k_ ≠ gb301)) (n := t296.length) (c := co254) ?_).2.2; exact (by (with_reducible repeat (first | apply V_alloc | apply V_drewN | apply V_drew)); exact (V_mono (V_far (p := ⟨gb301, 2, none⟩) (V_far (p := ⟨gb301, 1, none⟩) (V_far (p := ⟨gb301, 0, none⟩) (V_mono HO298.out (fun k_ hk => (⟨hk, hk.2⟩ : _ ∧ k_ ≠ gb301))) (fun _ hk => hk.2) (.int .i64 t295)) (fun _ hk => hk.2) (.slice Ao254 t296.length co254)) (fun _ hk => hk.2) (.int .i64 t299)) (fun _ h_ => h_.1)))); (case side4 => exact (V_reads' HO298.out).2.1); rintro e w261 ⟨rfl, hb⟩; have n0_ := Aside0.mk (R_below (by (with_reducible repeat (first | apply R_alloc | apply R_drewN | apply R_drew)); exact (R_mono (R_far (p := ⟨gb301, 2, none⟩) (R_far (p := ⟨gb301, 1, none⟩) (R_far (p := ⟨gb301, 0, none⟩) (R_types HO_233001.out BK301.out (by decide)) (fun _ hk => hk.2) (.int .i64 t295)) (fun _ hk => hk.2) (.slice Ao254 t296.length co254)) (fun _ hk => hk.2) (.int .i64 t299)) (fun _ h_ => h_.1))) hb); have n1_ := Aside0.mk (R_below (by (with_reducible repeat (first | apply R_alloc | apply R_drewN | apply R_drew)); exact (R_mono (R_far (p := ⟨gb301, 2, none⟩) (R_far (p := ⟨gb301, 1, none⟩) (R_far (p := ⟨gb301, 0, none⟩) (R_types HO_245001.out BK301.out (by decide)) (fun _ hk => hk.2) (.int .i64 t295)) (fun _ hk => hk.2) (.slice Ao254 t296.length co254)) (fun _ hk => hk.2) (.int .i64 t299)) (fun _ h_ => h_.1))) hb); have n2_ := Aside0.mk (V_below (by (with_reducible repeat (first | apply V_alloc | apply V_drewN | apply V_drew)); exact (V_mono (V_far (p := ⟨gb301, 2, none⟩) (V_far (p := ⟨gb301, 1, none⟩) (V_far (p := ⟨gb301, 0, none⟩) (V_mono HO_253001.out (fun k_ hk => (⟨hk, hk.2⟩ : _ ∧ k_ ≠ gb301))) (fun _ hk => hk.2) (.int .i64 t295)) (fun _ hk => hk.2) (.slice Ao254 t296.length co254)) (fun _ hk => hk.2) (.int .i64 t299)) (fun _ h_ => h_.1))) hb); have n3_ := Aside0.mk (V_below (by (with_reducible repeat (first | apply V_alloc | apply V_drewN | apply V_drew)); exact (V_mono (V_far (p := ⟨gb301, 2, none⟩) (V_far (p := ⟨gb301, 1, none⟩) (V_far (p := ⟨gb301, 0, none⟩) (V_mono HO_261001.out (fun k_ hk => (⟨hk, hk.2⟩ : _ ∧ k_ ≠ gb301))) (fun _ hk => hk.2) (.int .i64 t295)) (fun _ hk => hk.2) (.slice Ao254 t296.length co254)) (fun _ hk => hk.2) (.int .i64 t299)) (fun _ h_ => h_.1))) hb); have n4_ := Aside0.mk (R_below (by (with_reducible repeat (first | apply R_alloc | apply R_drewN | apply R_drew)); exact (R_mono (R_far (p := ⟨gb301, 2, none⟩) (R_far (p := ⟨gb301, 1, none⟩) (R_far (p := ⟨gb301, 0, none⟩) (R_types HO_269001.out BK301.out (by decide)) (fun _ hk => hk.2) (.int .i64 t295)) (fun _ hk => hk.2) (.slice Ao254 t296.length co254)) (fun _ hk => hk.2) (.int .i64 t299)) (fun _ h_ => h_.1))) hb); have n5_ := Aside0.mk (R_below (by (with_reducible repeat (first | apply R_alloc | apply R_drewN | apply R_drew)); exact (R_mono (R_far (p := ⟨gb301, 2, none⟩) (R_far (p := ⟨gb301, 1, none⟩) (R_far (p := ⟨gb301, 0, none⟩) (R_types HO_286001.out BK301.out (by decide)) (fun _ hk => hk.2) (.int .i64 t295)) (fun _ hk => hk.2) (.slice Ao254 t296.length co254)) (fun _ hk => hk.2) (.int .i64 t299)) (fun _ h_ => h_.1))) hb); have n6_ := Aside0.mk (V_below (by (with_reducible repeat (first | apply V_alloc | apply V_drewN | apply V_drew)); exact (V_mono (V_far (p := ⟨gb301, 2, none⟩) (V_far (p := ⟨gb301, 1, none⟩) (V_far (p := ⟨gb301, 0, none⟩) (V_mono HO298.out (fun k_ hk => (⟨hk, hk.2⟩ : _ ∧ k_ ≠ gb301))) (fun _ hk => hk.2) (.int .i64 t295)) (fun _ hk => hk.2) (.slice Ao254 t296.length co254)) (fun _ hk => hk.2) (.int .i64 t299)) (fun _ h_ => h_.1))) hb); have n7_ := Aside0.mk (blk_below (g := gb232) (o := .cells #[.int .i64 t233, .slice Ao17 t234.length co17, .int .i64 t237] 35 (0, 0)) (by (with_reducible repeat (first | refine blk_drewN ?_ _ | refine blk_drew ?_ | refine blk_alloc ?_ _)); refine blk_far ?_ NB232_301.out _; (with_reducible repeat (first | refine blk_drewN ?_ _ | refine blk_drew ?_ | refine blk_alloc ?_ _)); refine blk_far ?_ NB232_301.out _; (with_reducible repeat (first | refine blk_drewN ?_ _ | refine blk_drew ?_ | refine blk_alloc ?_ _)); refine blk_far ?_ NB232_301.out _; (with_reducible repeat (first | refine blk_drewN ?_ _ | refine blk_drew ?_ | refine blk_alloc ?_ _)); exact BK232.out) hb); have n8_ := Aside0.mk (blk_below (g := gb244) (o := .cells #[.int .i64 t238, .slice Ao24 t239.length co24, .int .i64 t242] 35 (0, 0)) (by (with_reducible repeat (first | refine blk_drewN ?_ _ | refine blk_drew ?_ | refine blk_alloc ?_ _)); refine blk_far ?_ NB244_301.out _; (with_reducible repeat (first | refine blk_drewN ?_ _ | refine blk_drew ?_ | refine blk_alloc ?_ _)); refine blk_far ?_ NB244_301.out _; (with_reducible repeat (first | refine blk_drewN ?_ _ | refine blk_drew ?_ | refine blk_alloc ?_ _)); refine blk_far ?_ NB244_301.out _; (with_reducible repeat (first | refine blk_drewN ?_ _ | refine blk_drew ?_ | refine blk_alloc ?_ _)); exact BK244.out) hb); have n9_ := Aside0.mk (blk_below (g := gb252) (o := .cells #[.int .i64 t245, .slice Ao32 t246.length co32, .int .i64 t249] 35 (0, 0)) (by (with_reducible repeat (first | refine blk_drewN ?_ _ | refine blk_drew ?_ | refine blk_alloc ?_ _)); refine blk_far ?_ NB252_301.out _; (with_reducible repeat (first | refine blk_drewN ?_ _ | refine blk_drew ?_ | refine blk_alloc ?_ _)); refine blk_far ?_ NB252_301.out _; (with_reducible repeat (first | refine blk_drewN ?_ _ | refine blk_drew ?_ | refine blk_alloc ?_ _)); refine blk_far ?_ NB252_301.out _; (with_reducible repeat (first | refine blk_drewN ?_ _ | refine blk_drew ?_ | refine blk_alloc ?_ _)); exact BK252.out) hb); have n10_ := Aside0.mk (blk_below (g := gb260) (o := .cells #[.int .i64 t253, .slice Ao41 t254.length co41, .int .i64 t257] 35 (0, 0)) (by (with_reducible repeat (first | refine blk_drewN ?_ _ | refine blk_drew ?_ | refine blk_alloc ?_ _)); refine blk_far ?_ NB260_301.out _; (with_reducible repeat (first | refine blk_drewN ?_ _ | refine blk_drew ?_ | refine blk_alloc ?_ _)); refine blk_far ?_ NB260_301.out _; (with_reducible repeat (first | refine blk_drewN ?_ _ | refine blk_drew ?_ | refine blk_alloc ?_ _)); refine blk_far ?_ NB260_301.out _; (with_reducible repeat (first | refine blk_drewN ?_ _ | refine blk_drew ?_ | refine blk_alloc ?_ _)); exact BK260.out) hb); have n11_ := Aside0.mk (blk_below (g := gb268) (o := .cells #[.int .i64 t261, .slice Ao50 t262.length co50, .int .i64 t265] 35 (0, 0)) (by (with_reducible repeat (first | refine blk_drewN ?_ _ | refine blk_drew ?_ | refine blk_alloc ?_ _)); refine blk_far ?_ NB268_301.out _; (with_reducible repeat (first | refine blk_drewN ?_ _ | refine blk_drew ?_ | refine blk_alloc ?_ _)); refine blk_far ?_ NB268_301.out _; (with_reducible repeat (first | refine blk_drewN ?_ _ | refine blk_drew ?_ | refine blk_alloc ?_ _)); refine blk_far ?_ NB268_301.out _; (with_reducible repeat (first | refine blk_drewN ?_ _ | refine blk_drew ?_ | refine blk_alloc ?_ _)); exact BK268.out) hb); have n12_ := Aside0.mk (blk_below (g := gb269) (o := .cells #[.int .i64 0, .slice none 0 0, .int .i64 0] 35 (0, 0)) (by (with_reducible repeat (first | refine blk_drewN ?_ _ | refine blk_drew ?_ | refine blk_alloc ?_ _)); refine blk_far ?_ NB269_301.out _; (with_reducible repeat (first | refine blk_drewN ?_ _ | refine blk_drew ?_ | refine blk_alloc ?_ _)); refine blk_far ?_ NB269_301.out _; (with_reducible repeat (first | refine blk_drewN ?_ _ | refine blk_drew ?_ | refine blk_alloc ?_ _)); refine blk_far ?_ NB269_301.out _; (with_reducible repeat (first | refine blk_drewN ?_ _ | refine blk_drew ?_ | refine blk_alloc ?_ _)); exact BK269.out) hb); have n13_ := Aside0.mk (blk_below (g := gb285) (o := .cells #[.int .i64 t279, .slice Ao141 t280.length co141, .int .i64 t283] 35 (0, 0)) (by (with_reducible repeat (first | refine blk_drewN ?_ _ | refine blk_drew ?_ | refine blk_alloc ?_ _)); refine blk_far ?_ NB285_301.out _; (with_reducible repeat (first | refine blk_drewN ?_ _ | refine blk_drew ?_ | refine blk_alloc ?_ _)); refine blk_far ?_ NB285_301.out _; (with_reducible repeat (first | refine blk_drewN ?_ _ | refine blk_drew ?_ | refine blk_alloc ?_ _)); refine blk_far ?_ NB285_301.out _; (with_reducible repeat (first | refine blk_drewN ?_ _ | refine blk_drew ?_ | refine blk_alloc ?_ _)); exact BK285.out) hb); have n14_ := Aside0.mk (blk_below (g := gb301) (o := .cells #[.int .i64 t295, .slice Ao254 t296.length co254, .int .i64 t299] 35 (0, 0)) (by (with_reducible repeat (first | refine blk_drewN ?_ _ | refine blk_drew ?_ | refine blk_alloc ?_ _)); refine blk_put (cs := #[.int .i64 t295, .slice Ao254 t296.length co254, .int .i64 0]) ?_ 2 _ rfl; (with_reducible repeat (first | refine blk_drewN ?_ _ | refine blk_drew ?_ | refine blk_alloc ?_ _)); refine blk_put (cs := #[.int .i64 t295, .slice none 0 0, .int .i64 0]) ?_ 1 _ rfl; (with_reducible repeat (first | refine blk_drewN ?_ _ | refine blk_drew ?_ | refine blk_alloc ?_ _)); refine blk_put (cs := #[.int .i64 0, .slice none 0 0, .int .i64 0]) ?_ 0 _ rfl; (with_reducible repeat (first | refine blk_drewN ?_ _ | refine blk_drew ?_ | refine blk_alloc ?_ _)); exact BK301.out) hb); have n15_ := Aside0.mk (below_step (by repeat (first | (with_reducible first | exact HB.out | apply below_alloc | apply pw_below_drewN | apply below_drew1 | refine below_set ?_ GE232.out | refine below_set ?_ GE244.out | refine below_set ?_ GE252.out | refine below_set ?_ GE260.out | refine below_set ?_ GE268.out | refine below_set ?_ GE269.out | refine below_set ?_ GE285.out | refine below_set ?_ GE301.out) | exact HB.out)) hb); clear HO_233001; clear HO_245001; clear HO_253001; clear HO_261001; clear HO_269001; clear HO_286001; clear HO298; clear BK232; clear BK244; clear BK252; clear BK260; clear BK268; clear BK269; clear BK285; clear BK301; clear HB; have HO_233001 := n0_; have HO_245001 := n1_; have HO_253001 := n2_; have HO_261001 := n3_; have HO_269001 := n4_; have HO_286001 := n5_; have HO298 := n6_; have BK232 := n7_; have BK244 := n8_; have BK252 := n9_; have BK260 := n10_; have BK268 := n11_; have BK269 := n12_; have BK285 := n13_; have BK301 := n14_; have HB := n15_; clear n0_ n1_ n2_ n3_ n4_ n5_ n6_ n7_ n8_ n9_ n10_ n11_ n12_ n13_ n14_ n15_; (try clear hb); (try clear hb2); (try clear hk); (try clear hi)))
        go_ret
        exact ⟨by first | rfl | (simp [errW_none, errW_some] <;> rfl) | (simp only [← hji5]; first | rfl | (simp [errW_none, errW_some] <;> rfl)) | (simp [*, errW_none, errW_some] <;> rfl), by repeat (first | (with_reducible first | exact HB.out | apply below_alloc | apply pw_below_drewN | apply below_drew1 | refine below_set ?_ GE232.out | refine below_set ?_ GE244.out | refine below_set ?_ GE252.out | refine below_set ?_ GE260.out | refine below_set ?_ GE268.out | refine below_set ?_ GE269.out | refine below_set ?_ GE285.out | refine below_set ?_ GE301.out) | exact HB.out)⟩
       ·rw [if_neg c235] at H
        have c235b0 : (t250 == t300) = false := by simpa using c235
        (try (have c235b1 : decide (t250 = t300) = false := by simpa using c235))
        (try (have c235b2 : (t250 == t300) = false := by simpa using c235))
        (try (have c235b3 : ¬ (t250 = t300) := by simpa using c235))
        clear c235
        obtain rfl := Option.some.inj H
        have hnb262 := NB232_244.out
        have hnc262 := NB244_232.out
        have hnb263 := NB232_252.out
        have hnc263 := NB252_232.out
        have hnb264 := NB232_260.out
        have hnc264 := NB260_232.out
        have hnb265 := NB232_268.out
        have hnc265 := NB268_232.out
        have hnb266 := NB232_269.out
        have hnc266 := NB269_232.out
        have hnb267 := NB232_285.out
        have hnc267 := NB285_232.out
        have hcz268_0 : wc.cell? ⟨gb232, 0, none⟩ = some (.int .i64 t233) := (blk_cell BK232.out 0).trans rfl
        have hcz268_1 : wc.cell? ⟨gb232, 1, none⟩ = some (.slice Ao17 t234.length co17) := (blk_cell BK232.out 1).trans rfl
        have hcz268_2 : wc.cell? ⟨gb232, 2, none⟩ = some (.int .i64 t237) := (blk_cell BK232.out 2).trans rfl
        have hfz268_0 := blk_frozen BK232.out 0
        have hfz268_1 := blk_frozen BK232.out 1
        have hfz268_2 := blk_frozen BK232.out 2
        go_wp2_with (first | ((with_reducible refine gate_callee (f := 30) rfl ?_); refine goesL_ (some 201) rfl rfl Try.func30 (by kernel_rfl) rfl #[.agg #[.int .i64 t233, .slice Ao17 t234.length co17, .int .i64 t237], .string zs] rfl (by (try simp only [List.map_toArray, List.map_cons, List.map_nil]); first | done | (simp only [hji5]; rfl) | rfl | (simp only [List.length_drop, List.length_take]; rfl)) ?_; (with_reducible refine (footwayref09_Push.calls t233 (fun k_ => some k_ = (.slice Ao17 t234.length co17 : Value).ownBlock) _ _ t234 t237 zs t295 t296 t299 t300 _ ?side1 A233.out).mono ?_); (case side1 => exact R_V (R_tight rfl (R_types (R_types (R_types (R_types (R_types (R_types (R_types (HO_233001.out) BK232.out (by decide)) BK244.out (by decide)) BK252.out (by decide)) BK260.out (by decide)) BK268.out (by decide)) BK269.out (by decide)) BK285.out (by decide)))); rintro e w269 ⟨v297, rfl, ho0, hb⟩; refine ⟨_, rfl, ?_⟩; have n0_ := Aside0.mk (R_below (by (with_reducible repeat (first | apply R_alloc | apply R_drewN | apply R_drew)); exact HO_233001.out) hb); have n1_ := Aside0.mk (R_below (by (with_reducible repeat (first | apply R_alloc | apply R_drewN | apply R_drew)); exact HO_245001.out) hb); have n2_ := Aside0.mk (V_below (by (with_reducible repeat (first | apply V_alloc | apply V_drewN | apply V_drew)); exact HO_253001.out) hb); have n3_ := Aside0.mk (V_below (by (with_reducible repeat (first | apply V_alloc | apply V_drewN | apply V_drew)); exact HO_261001.out) hb); have n4_ := Aside0.mk (R_below (by (with_reducible repeat (first | apply R_alloc | apply R_drewN | apply R_drew)); exact HO_269001.out) hb); have n5_ := Aside0.mk (R_below (by (with_reducible repeat (first | apply R_alloc | apply R_drewN | apply R_drew)); exact HO_286001.out) hb); have n6_ := Aside0.mk (V_lower (V_mono (ok' := fun k_ => some k_ ≠ (.slice Ao24 t239.length co24 : Value).ownBlock ∧ some k_ ≠ (.slice Ao50 t262.length co50 : Value).ownBlock ∧ some k_ ≠ (.slice Ao141 t280.length co141 : Value).ownBlock ∧ k_ ≠ gb232 ∧ k_ ≠ gb244 ∧ k_ ≠ gb252 ∧ k_ ≠ gb260 ∧ k_ ≠ gb268 ∧ k_ ≠ gb269 ∧ k_ ≠ gb285) ho0 (fun k_ hk_ => ⟨Or.elim hk_ (fun hs_ => ((R_types (R_types (R_types (R_types (R_types (R_types (R_types (HO_233001.out) BK232.out (by decide)) BK244.out (by decide)) BK252.out (by decide)) BK260.out (by decide)) BK268.out (by decide)) BK269.out (by decide)) BK285.out (by decide)).1 k_ hs_.symm).1.1.1.1.1.1.1.1) (fun hn_ => (Kd.fresh' (R_lt (by (with_reducible repeat (first | apply R_alloc | apply R_drewN | apply R_drew)); exact HO_245001.out)) k_ hn_)), Or.elim hk_ (fun hs_ => ((R_types (R_types (R_types (R_types (R_types (R_types (R_types (HO_233001.out) BK232.out (by decide)) BK244.out (by decide)) BK252.out (by decide)) BK260.out (by decide)) BK268.out (by decide)) BK269.out (by decide)) BK285.out (by decide)).1 k_ hs_.symm).1.1.1.1.1.1.1.2.1) (fun hn_ => (Kd.fresh' (R_lt (by (with_reducible repeat (first | apply R_alloc | apply R_drewN | apply R_drew)); exact HO_269001.out)) k_ hn_)), Or.elim hk_ (fun hs_ => ((R_types (R_types (R_types (R_types (R_types (R_types (R_types (HO_233001.out) BK232.out (by decide)) BK244.out (by decide)) BK252.out (by decide)) BK260.out (by decide)) BK268.out (by decide)) BK269.out (by decide)) BK285.out (by decide)).1 k_ hs_.symm).1.1.1.1.1.1.1.2.2) (fun hn_ => (Kd.fresh' (R_lt (by (with_reducible repeat (first | apply R_alloc | apply R_drewN | apply R_drew)); exact HO_286001.out)) k_ hn_)), Or.elim hk_ (fun hs_ => ((R_types (R_types (R_types (R_types (R_types (R_types (R_types (HO_233001.out) BK232.out (by decide)) BK244.out (by decide)) BK252.out (by decide)) BK260.out (by decide)) BK268.out (by decide)) BK269.out (by decide)) BK285.out (by decide)).1 k_ hs_.symm).1.1.1.1.1.1.2) (fun hn_ => (Kd.freshB (g := gb232) (o := .cells #[.int .i64 t233, .slice Ao17 t234.length co17, .int .i64 t237] 35 (0, 0)) (by (with_reducible repeat (first | refine blk_drewN ?_ _ | refine blk_drew ?_ | refine blk_alloc ?_ _)); exact BK232.out) k_ hn_)), Or.elim hk_ (fun hs_ => ((R_types (R_types (R_types (R_types (R_types (R_types (R_types (HO_233001.out) BK232.out (by decide)) BK244.out (by decide)) BK252.out (by decide)) BK260.out (by decide)) BK268.out (by decide)) BK269.out (by decide)) BK285.out (by decide)).1 k_ hs_.symm).1.1.1.1.1.2) (fun hn_ => (Kd.freshB (g := gb244) (o := .cells #[.int .i64 t238, .slice Ao24 t239.length co24, .int .i64 t242] 35 (0, 0)) (by (with_reducible repeat (first | refine blk_drewN ?_ _ | refine blk_drew ?_ | refine blk_alloc ?_ _)); exact BK244.out) k_ hn_)), Or.elim hk_ (fun hs_ => ((R_types (R_types (R_types (R_types (R_types (R_types (R_types (HO_233001.out) BK232.out (by decide)) BK244.out (by decide)) BK252.out (by decide)) BK260.out (by decide)) BK268.out (by decide)) BK269.out (by decide)) BK285.out (by decide)).1 k_ hs_.symm).1.1.1.1.2) (fun hn_ => (Kd.freshB (g := gb252) (o := .cells #[.int .i64 t245, .slice Ao32 t246.length co32, .int .i64 t249] 35 (0, 0)) (by (with_reducible repeat (first | refine blk_drewN ?_ _ | refine blk_drew ?_ | refine blk_alloc ?_ _)); exact BK252.out) k_ hn_)), Or.elim hk_ (fun hs_ => ((R_types (R_types (R_types (R_types (R_types (R_types (R_types (HO_233001.out) BK232.out (by decide)) BK244.out (by decide)) BK252.out (by decide)) BK260.out (by decide)) BK268.out (by decide)) BK269.out (by decide)) BK285.out (by decide)).1 k_ hs_.symm).1.1.1.2) (fun hn_ => (Kd.freshB (g := gb260) (o := .cells #[.int .i64 t253, .slice Ao41 t254.length co41, .int .i64 t257] 35 (0, 0)) (by (with_reducible repeat (first | refine blk_drewN ?_ _ | refine blk_drew ?_ | refine blk_alloc ?_ _)); exact BK260.out) k_ hn_)), Or.elim hk_ (fun hs_ => ((R_types (R_types (R_types (R_types (R_types (R_types (R_types (HO_233001.out) BK232.out (by decide)) BK244.out (by decide)) BK252.out (by decide)) BK260.out (by decide)) BK268.out (by decide)) BK269.out (by decide)) BK285.out (by decide)).1 k_ hs_.symm).1.1.2) (fun hn_ => (Kd.freshB (g := gb268) (o := .cells #[.int .i64 t261, .slice Ao50 t262.length co50, .int .i64 t265] 35 (0, 0)) (by (with_reducible repeat (first | refine blk_drewN ?_ _ | refine blk_drew ?_ | refine blk_alloc ?_ _)); exact BK268.out) k_ hn_)), Or.elim hk_ (fun hs_ => ((R_types (R_types (R_types (R_types (R_types (R_types (R_types (HO_233001.out) BK232.out (by decide)) BK244.out (by decide)) BK252.out (by decide)) BK260.out (by decide)) BK268.out (by decide)) BK269.out (by decide)) BK285.out (by decide)).1 k_ hs_.symm).1.2) (fun hn_ => (Kd.freshB (g := gb269) (o := .cells #[.int .i64 0, .slice none 0 0, .int .i64 0] 35 (0, 0)) (by (with_reducible repeat (first | refine blk_drewN ?_ _ | refine blk_drew ?_ | refine blk_alloc ?_ _)); exact BK269.out) k_ hn_)), Or.elim hk_ (fun hs_ => ((R_types (R_types (R_types (R_types (R_types (R_types (R_types (HO_233001.out) BK232.out (by decide)) BK244.out (by decide)) BK252.out (by decide)) BK260.out (by decide)) BK268.out (by decide)) BK269.out (by decide)) BK285.out (by decide)).1 k_ hs_.symm).2) (fun hn_ => (Kd.freshB (g := gb285) (o := .cells #[.int .i64 t279, .slice Ao141 t280.length co141, .int .i64 t283] 35 (0, 0)) (by (with_reducible repeat (first | refine blk_drewN ?_ _ | refine blk_drew ?_ | refine blk_alloc ?_ _)); exact BK285.out) k_ hn_))⟩)) (below_size (by repeat (first | (with_reducible first | exact HB.out | apply below_alloc | apply pw_below_drewN | apply below_drew1 | refine below_set ?_ GE232.out | refine below_set ?_ GE244.out | refine below_set ?_ GE252.out | refine below_set ?_ GE260.out | refine below_set ?_ GE268.out | refine below_set ?_ GE269.out | refine below_set ?_ GE285.out) | exact HB.out)))); have n7_ := Aside0.mk (blk_below (g := gb232) (o := .cells #[.int .i64 t233, .slice Ao17 t234.length co17, .int .i64 t237] 35 (0, 0)) (by (with_reducible repeat (first | refine blk_drewN ?_ _ | refine blk_drew ?_ | refine blk_alloc ?_ _)); exact BK232.out) hb); have n8_ := Aside0.mk (blk_below (g := gb244) (o := .cells #[.int .i64 t238, .slice Ao24 t239.length co24, .int .i64 t242] 35 (0, 0)) (by (with_reducible repeat (first | refine blk_drewN ?_ _ | refine blk_drew ?_ | refine blk_alloc ?_ _)); exact BK244.out) hb); have n9_ := Aside0.mk (blk_below (g := gb252) (o := .cells #[.int .i64 t245, .slice Ao32 t246.length co32, .int .i64 t249] 35 (0, 0)) (by (with_reducible repeat (first | refine blk_drewN ?_ _ | refine blk_drew ?_ | refine blk_alloc ?_ _)); exact BK252.out) hb); have n10_ := Aside0.mk (blk_below (g := gb260) (o := .cells #[.int .i64 t253, .slice Ao41 t254.length co41, .int .i64 t257] 35 (0, 0)) (by (with_reducible repeat (first | refine blk_drewN ?_ _ | refine blk_drew ?_ | refine blk_alloc ?_ _)); exact BK260.out) hb); have n11_ := Aside0.mk (blk_below (g := gb268) (o := .cells #[.int .i64 t261, .slice Ao50 t262.length co50, .int .i64 t265] 35 (0, 0)) (by (with_reducible repeat (first | refine blk_drewN ?_ _ | refine blk_drew ?_ | refine blk_alloc ?_ _)); exact BK268.out) hb); have n12_ := Aside0.mk (blk_below (g := gb269) (o := .cells #[.int .i64 0, .slice none 0 0, .int .i64 0] 35 (0, 0)) (by (with_reducible repeat (first | refine blk_drewN ?_ _ | refine blk_drew ?_ | refine blk_alloc ?_ _)); exact BK269.out) hb); have n13_ := Aside0.mk (blk_below (g := gb285) (o := .cells #[.int .i64 t279, .slice Ao141 t280.length co141, .int .i64 t283] 35 (0, 0)) (by (with_reducible repeat (first | refine blk_drewN ?_ _ | refine blk_drew ?_ | refine blk_alloc ?_ _)); exact BK285.out) hb); have n14_ := Aside0.mk (below_step (by repeat (first | (with_reducible first | exact HB.out | apply below_alloc | apply pw_below_drewN | apply below_drew1 | refine below_set ?_ GE232.out | refine below_set ?_ GE244.out | refine below_set ?_ GE252.out | refine below_set ?_ GE260.out | refine below_set ?_ GE268.out | refine below_set ?_ GE269.out | refine below_set ?_ GE285.out) | exact HB.out)) hb); clear HO_233001; clear HO_245001; clear HO_253001; clear HO_261001; clear HO_269001; clear HO_286001; clear BK232; clear BK244; clear BK252; clear BK260; clear BK268; clear BK269; clear BK285; clear HB; have HO_233001 := n0_; have HO_245001 := n1_; have HO_253001 := n2_; have HO_261001 := n3_; have HO_269001 := n4_; have HO_286001 := n5_; have HO298 := n6_; have BK232 := n7_; have BK244 := n8_; have BK252 := n9_; have BK260 := n10_; have BK268 := n11_; have BK269 := n12_; have BK285 := n13_; have HB := n14_; clear n0_ n1_ n2_ n3_ n4_ n5_ n6_ n7_ n8_ n9_ n10_ n11_ n12_ n13_ n14_; (try clear hb); (try clear hb2); (try clear hk); (try clear hi); (try clear ho0)) | ((with_reducible refine gate_dst (N := 21) rfl ?_); refine box_event ?hg (N := 21) ?hd (cs := #[.int .i64 0, .slice none 0 0, .int .i64 0]) (t := 35) ?hr ?_; (case hd => rfl); (case hg => rfl); (case hr => first | (go_simp; done) | (go_simp; rfl)); intro gb301 hg w270 hbox hb; have n0_ := Aside0.mk (R_below (by (with_reducible repeat (first | apply R_alloc | apply R_drewN | apply R_drew)); exact HO_233001.out) hb); have n1_ := Aside0.mk (R_below (by (with_reducible repeat (first | apply R_alloc | apply R_drewN | apply R_drew)); exact HO_245001.out) hb); have n2_ := Aside0.mk (V_below (V_elderB (by (with_reducible repeat (first | apply V_alloc | apply V_drewN | apply V_drew)); exact HO_253001.out) gb301 (Nat.le_of_eq hg.symm)) hb); have n3_ := Aside0.mk (V_below (V_elderB (by (with_reducible repeat (first | apply V_alloc | apply V_drewN | apply V_drew)); exact HO_261001.out) gb301 (Nat.le_of_eq hg.symm)) hb); have n4_ := Aside0.mk (R_below (by (with_reducible repeat (first | apply R_alloc | apply R_drewN | apply R_drew)); exact HO_269001.out) hb); have n5_ := Aside0.mk (R_below (by (with_reducible repeat (first | apply R_alloc | apply R_drewN | apply R_drew)); exact HO_286001.out) hb); have n6_ := Aside0.mk (V_below (V_elderB (by (with_reducible repeat (first | apply V_alloc | apply V_drewN | apply V_drew)); exact HO298.out) gb301 (Nat.le_of_eq hg.symm)) hb); have n7_ := Aside0.mk (blk_below (g := gb232) (o := .cells #[.int .i64 t233, .slice Ao17 t234.length co17, .int .i64 t237] 35 (0, 0)) (by (with_reducible repeat (first | refine blk_drewN ?_ _ | refine blk_drew ?_ | refine blk_alloc ?_ _)); exact BK232.out) hb); have n8_ := Aside0.mk (blk_below (g := gb244) (o := .cells #[.int .i64 t238, .slice Ao24 t239.length co24, .int .i64 t242] 35 (0, 0)) (by (with_reducible repeat (first | refine blk_drewN ?_ _ | refine blk_drew ?_ | refine blk_alloc ?_ _)); exact BK244.out) hb); have n9_ := Aside0.mk (blk_below (g := gb252) (o := .cells #[.int .i64 t245, .slice Ao32 t246.length co32, .int .i64 t249] 35 (0, 0)) (by (with_reducible repeat (first | refine blk_drewN ?_ _ | refine blk_drew ?_ | refine blk_alloc ?_ _)); exact BK252.out) hb); have n10_ := Aside0.mk (blk_below (g := gb260) (o := .cells #[.int .i64 t253, .slice Ao41 t254.length co41, .int .i64 t257] 35 (0, 0)) (by (with_reducible repeat (first | refine blk_drewN ?_ _ | refine blk_drew ?_ | refine blk_alloc ?_ _)); exact BK260.out) hb); have n11_ := Aside0.mk (blk_below (g := gb268) (o := .cells #[.int .i64 t261, .slice Ao50 t262.length co50, .int .i64 t265] 35 (0, 0)) (by (with_reducible repeat (first | refine blk_drewN ?_ _ | refine blk_drew ?_ | refine blk_alloc ?_ _)); exact BK268.out) hb); have n12_ := Aside0.mk (blk_below (g := gb269) (o := .cells #[.int .i64 0, .slice none 0 0, .int .i64 0] 35 (0, 0)) (by (with_reducible repeat (first | refine blk_drewN ?_ _ | refine blk_drew ?_ | refine blk_alloc ?_ _)); exact BK269.out) hb); have n13_ := Aside0.mk (blk_below (g := gb285) (o := .cells #[.int .i64 t279, .slice Ao141 t280.length co141, .int .i64 t283] 35 (0, 0)) (by (with_reducible repeat (first | refine blk_drewN ?_ _ | refine blk_drew ?_ | refine blk_alloc ?_ _)); exact BK285.out) hb); have n14_ := Aside0.mk (below_step (by repeat (first | (with_reducible first | exact HB.out | apply below_alloc | apply pw_below_drewN | apply below_drew1 | refine below_set ?_ GE232.out | refine below_set ?_ GE244.out | refine below_set ?_ GE252.out | refine below_set ?_ GE260.out | refine below_set ?_ GE268.out | refine below_set ?_ GE269.out | refine below_set ?_ GE285.out) | exact HB.out)) hb); have n15_ := Aside0.mk (hbox); have n16_ := Aside0.mk ((by rw [hg]; exact (below_size (by repeat (first | (with_reducible first | exact HB.out | apply below_alloc | apply pw_below_drewN | apply below_drew1 | refine below_set ?_ GE232.out | refine below_set ?_ GE244.out | refine below_set ?_ GE252.out | refine below_set ?_ GE260.out | refine below_set ?_ GE268.out | refine below_set ?_ GE269.out | refine below_set ?_ GE285.out) | exact HB.out))) : w.heap.size ≤ gb301)); have n17_ := Aside0.mk ((by rw [hg]; exact (below_size (by repeat (first | (with_reducible first | exact HB.out | apply below_alloc | apply pw_below_drewN | apply below_drew1 | refine below_set ?_ GE232.out | refine below_set ?_ GE244.out | refine below_set ?_ GE252.out | refine below_set ?_ GE260.out | refine below_set ?_ GE268.out | refine below_set ?_ GE269.out | refine below_set ?_ GE285.out) | exact HB.out))) : w.heap.size ≤ gb301)); have n18_ := Aside0.mk ((by rw [hg]; exact Nat.ne_of_lt (blk_lt (g := gb232) (o := .cells #[.int .i64 t233, .slice Ao17 t234.length co17, .int .i64 t237] 35 (0, 0)) (by (with_reducible repeat (first | refine blk_drewN ?_ _ | refine blk_drew ?_ | refine blk_alloc ?_ _)); exact BK232.out)) : gb232 ≠ gb301)); have n19_ := Aside0.mk ((by rw [hg]; exact Nat.ne_of_gt (blk_lt (g := gb232) (o := .cells #[.int .i64 t233, .slice Ao17 t234.length co17, .int .i64 t237] 35 (0, 0)) (by (with_reducible repeat (first | refine blk_drewN ?_ _ | refine blk_drew ?_ | refine blk_alloc ?_ _)); exact BK232.out)) : gb301 ≠ gb232)); have n20_ := Aside0.mk ((by rw [hg]; exact Nat.ne_of_lt (blk_lt (g := gb244) (o := .cells #[.int .i64 t238, .slice Ao24 t239.length co24, .int .i64 t242] 35 (0, 0)) (by (with_reducible repeat (first | refine blk_drewN ?_ _ | refine blk_drew ?_ | refine blk_alloc ?_ _)); exact BK244.out)) : gb244 ≠ gb301)); have n21_ := Aside0.mk ((by rw [hg]; exact Nat.ne_of_gt (blk_lt (g := gb244) (o := .cells #[.int .i64 t238, .slice Ao24 t239.length co24, .int .i64 t242] 35 (0, 0)) (by (with_reducible repeat (first | refine blk_drewN ?_ _ | refine blk_drew ?_ | refine blk_alloc ?_ _)); exact BK244.out)) : gb301 ≠ gb244)); have n22_ := Aside0.mk ((by rw [hg]; exact Nat.ne_of_lt (blk_lt (g := gb252) (o := .cells #[.int .i64 t245, .slice Ao32 t246.length co32, .int .i64 t249] 35 (0, 0)) (by (with_reducible repeat (first | refine blk_drewN ?_ _ | refine blk_drew ?_ | refine blk_alloc ?_ _)); exact BK252.out)) : gb252 ≠ gb301)); have n23_ := Aside0.mk ((by rw [hg]; exact Nat.ne_of_gt (blk_lt (g := gb252) (o := .cells #[.int .i64 t245, .slice Ao32 t246.length co32, .int .i64 t249] 35 (0, 0)) (by (with_reducible repeat (first | refine blk_drewN ?_ _ | refine blk_drew ?_ | refine blk_alloc ?_ _)); exact BK252.out)) : gb301 ≠ gb252)); have n24_ := Aside0.mk ((by rw [hg]; exact Nat.ne_of_lt (blk_lt (g := gb260) (o := .cells #[.int .i64 t253, .slice Ao41 t254.length co41, .int .i64 t257] 35 (0, 0)) (by (with_reducible repeat (first | refine blk_drewN ?_ _ | refine blk_drew ?_ | refine blk_alloc ?_ _)); exact BK260.out)) : gb260 ≠ gb301)); have n25_ := Aside0.mk ((by rw [hg]; exact Nat.ne_of_gt (blk_lt (g := gb260) (o := .cells #[.int .i64 t253, .slice Ao41 t254.length co41, .int .i64 t257] 35 (0, 0)) (by (with_reducible repeat (first | refine blk_drewN ?_ _ | refine blk_drew ?_ | refine blk_alloc ?_ _)); exact BK260.out)) : gb301 ≠ gb260)); have n26_ := Aside0.mk ((by rw [hg]; exact Nat.ne_of_lt (blk_lt (g := gb268) (o := .cells #[.int .i64 t261, .slice Ao50 t262.length co50, .int .i64 t265] 35 (0, 0)) (by (with_reducible repeat (first | refine blk_drewN ?_ _ | refine blk_drew ?_ | refine blk_alloc ?_ _)); exact BK268.out)) : gb268 ≠ gb301)); have n27_ := Aside0.mk ((by rw [hg]; exact Nat.ne_of_gt (blk_lt (g := gb268) (o := .cells #[.int .i64 t261, .slice Ao50 t262.length co50, .int .i64 t265] 35 (0, 0)) (by (with_reducible repeat (first | refine blk_drewN ?_ _ | refine blk_drew ?_ | refine blk_alloc ?_ _)); exact BK268.out)) : gb301 ≠ gb268)); have n28_ := Aside0.mk ((by rw [hg]; exact Nat.ne_of_lt (blk_lt (g := gb269) (o := .cells #[.int .i64 0, .slice none 0 0, .int .i64 0] 35 (0, 0)) (by (with_reducible repeat (first | refine blk_drewN ?_ _ | refine blk_drew ?_ | refine blk_alloc ?_ _)); exact BK269.out)) : gb269 ≠ gb301)); have n29_ := Aside0.mk ((by rw [hg]; exact Nat.ne_of_gt (blk_lt (g := gb269) (o := .cells #[.int .i64 0, .slice none 0 0, .int .i64 0] 35 (0, 0)) (by (with_reducible repeat (first | refine blk_drewN ?_ _ | refine blk_drew ?_ | refine blk_alloc ?_ _)); exact BK269.out)) : gb301 ≠ gb269)); have n30_ := Aside0.mk ((by rw [hg]; exact Nat.ne_of_lt (blk_lt (g := gb285) (o := .cells #[.int .i64 t279, .slice Ao141 t280.length co141, .int .i64 t283] 35 (0, 0)) (by (with_reducible repeat (first | refine blk_drewN ?_ _ | refine blk_drew ?_ | refine blk_alloc ?_ _)); exact BK285.out)) : gb285 ≠ gb301)); have n31_ := Aside0.mk ((by rw [hg]; exact Nat.ne_of_gt (blk_lt (g := gb285) (o := .cells #[.int .i64 t279, .slice Ao141 t280.length co141, .int .i64 t283] 35 (0, 0)) (by (with_reducible repeat (first | refine blk_drewN ?_ _ | refine blk_drew ?_ | refine blk_alloc ?_ _)); exact BK285.out)) : gb301 ≠ gb285)); clear HO_233001; clear HO_245001; clear HO_253001; clear HO_261001; clear HO_269001; clear HO_286001; clear HO298; clear BK232; clear BK244; clear BK252; clear BK260; clear BK268; clear BK269; clear BK285; clear HB; have HO_233001 := n0_; have HO_245001 := n1_; have HO_253001 := n2_; have HO_261001 := n3_; have HO_269001 := n4_; have HO_286001 := n5_; have HO298 := n6_; have BK232 := n7_; have BK244 := n8_; have BK252 := n9_; have BK260 := n10_; have BK268 := n11_; have BK269 := n12_; have BK285 := n13_; have HB := n14_; have BK301 := n15_; have GW301 := n16_; have GE301 := n17_; have NB232_301 := n18_; have NB301_232 := n19_; have NB244_301 := n20_; have NB301_244 := n21_; have NB252_301 := n22_; have NB301_252 := n23_; have NB260_301 := n24_; have NB301_260 := n25_; have NB268_301 := n26_; have NB301_268 := n27_; have NB269_301 := n28_; have NB301_269 := n29_; have NB285_301 := n30_; have NB301_285 := n31_; clear n0_ n1_ n2_ n3_ n4_ n5_ n6_ n7_ n8_ n9_ n10_ n11_ n12_ n13_ n14_ n15_ n16_ n17_ n18_ n19_ n20_ n21_ n22_ n23_ n24_ n25_ n26_ n27_ n28_ n29_ n30_ n31_; clear hb hbox hg; have hnb271 := NB301_232.out; have hnc271 := NB232_301.out; have hnb272 := NB301_244.out; have hnc272 := NB244_301.out; have hnb273 := NB301_252.out; have hnc273 := NB252_301.out; have hnb274 := NB301_260.out; have hnc274 := NB260_301.out; have hnb275 := NB301_268.out; have hnc275 := NB268_301.out; have hnb276 := NB301_269.out; have hnc276 := NB269_301.out; have hnb277 := NB301_285.out; have hnc277 := NB285_301.out; have hcz278_0 : w270.cell? ⟨gb301, 0, none⟩ = some (.int .i64 0) := (blk_cell BK301.out 0).trans rfl; have hcz278_1 : w270.cell? ⟨gb301, 1, none⟩ = some (.slice none 0 0) := (blk_cell BK301.out 1).trans rfl; have hcz278_2 : w270.cell? ⟨gb301, 2, none⟩ = some (.int .i64 0) := (blk_cell BK301.out 2).trans rfl; have hfz278_0 := blk_frozen BK301.out 0; have hfz278_1 := blk_frozen BK301.out 1; have hfz278_2 := blk_frozen BK301.out 2; obtain ⟨Ao279, co279, eo279⟩ := V_slice HO298.out; subst eo279))
        go_ret
        exact ⟨by first | rfl | (simp [errW_none, errW_some] <;> rfl) | (simp only [← hji5]; first | rfl | (simp [errW_none, errW_some] <;> rfl)) | (simp [*, errW_none, errW_some] <;> rfl), by repeat (first | (with_reducible first | exact HB.out | apply below_alloc | apply pw_below_drewN | apply below_drew1 | refine below_set ?_ GE232.out | refine below_set ?_ GE244.out | refine below_set ?_ GE252.out | refine below_set ?_ GE260.out | refine below_set ?_ GE268.out | refine below_set ?_ GE269.out | refine below_set ?_ GE285.out | refine below_set ?_ GE301.out) | exact HB.out)⟩
      ·rw [if_neg c234] at H
       have c234b0 : (t251 == 0) = false := beq_eq_false_iff_ne.mpr c234
       have c234b1 : (t251 != 0) = true := bne_iff_ne.mpr c234
       obtain rfl := Option.some.inj H
       have hnb280 := NB232_244.out
       have hnc280 := NB244_232.out
       have hnb281 := NB232_252.out
       have hnc281 := NB252_232.out
       have hnb282 := NB232_260.out
       have hnc282 := NB260_232.out
       have hnb283 := NB232_268.out
       have hnc283 := NB268_232.out
       have hnb284 := NB232_269.out
       have hnc284 := NB269_232.out
       have hnb285 := NB232_285.out
       have hnc285 := NB285_232.out
       have hcz286_0 : wc.cell? ⟨gb232, 0, none⟩ = some (.int .i64 t233) := (blk_cell BK232.out 0).trans rfl
       have hcz286_1 : wc.cell? ⟨gb232, 1, none⟩ = some (.slice Ao17 t234.length co17) := (blk_cell BK232.out 1).trans rfl
       have hcz286_2 : wc.cell? ⟨gb232, 2, none⟩ = some (.int .i64 t237) := (blk_cell BK232.out 2).trans rfl
       have hfz286_0 := blk_frozen BK232.out 0
       have hfz286_1 := blk_frozen BK232.out 1
       have hfz286_2 := blk_frozen BK232.out 2
       go_wp2_with (first | ((with_reducible refine gate_callee (f := 30) rfl ?_); refine goesL_ (some 201) rfl rfl Try.func30 (by kernel_rfl) rfl #[.agg #[.int .i64 t233, .slice Ao17 t234.length co17, .int .i64 t237], .string zs] rfl (by (try simp only [List.map_toArray, List.map_cons, List.map_nil]); first | done | (simp only [hji5]; rfl) | rfl | (simp only [List.length_drop, List.length_take]; rfl)) ?_; (with_reducible refine (footwayref09_Push.calls t233 (fun k_ => some k_ = (.slice Ao17 t234.length co17 : Value).ownBlock) _ _ t234 t237 zs t295 t296 t299 t300 _ ?side1 A233.out).mono ?_); (case side1 => exact R_V (R_tight rfl (R_types (R_types (R_types (R_types (R_types (R_types (R_types (HO_233001.out) BK232.out (by decide)) BK244.out (by decide)) BK252.out (by decide)) BK260.out (by decide)) BK268.out (by decide)) BK269.out (by decide)) BK285.out (by decide)))); rintro e w287 ⟨v297, rfl, ho0, hb⟩; refine ⟨_, rfl, ?_⟩; have n0_ := Aside0.mk (R_below (by (with_reducible repeat (first | apply R_alloc | apply R_drewN | apply R_drew)); exact HO_233001.out) hb); have n1_ := Aside0.mk (R_below (by (with_reducible repeat (first | apply R_alloc | apply R_drewN | apply R_drew)); exact HO_245001.out) hb); have n2_ := Aside0.mk (V_below (by (with_reducible repeat (first | apply V_alloc | apply V_drewN | apply V_drew)); exact HO_253001.out) hb); have n3_ := Aside0.mk (V_below (by (with_reducible repeat (first | apply V_alloc | apply V_drewN | apply V_drew)); exact HO_261001.out) hb); have n4_ := Aside0.mk (R_below (by (with_reducible repeat (first | apply R_alloc | apply R_drewN | apply R_drew)); exact HO_269001.out) hb); have n5_ := Aside0.mk (R_below (by (with_reducible repeat (first | apply R_alloc | apply R_drewN | apply R_drew)); exact HO_286001.out) hb); have n6_ := Aside0.mk (V_lower (V_mono (ok' := fun k_ => some k_ ≠ (.slice Ao24 t239.length co24 : Value).ownBlock ∧ some k_ ≠ (.slice Ao50 t262.length co50 : Value).ownBlock ∧ some k_ ≠ (.slice Ao141 t280.length co141 : Value).ownBlock ∧ k_ ≠ gb232 ∧ k_ ≠ gb244 ∧ k_ ≠ gb252 ∧ k_ ≠ gb260 ∧ k_ ≠ gb268 ∧ k_ ≠ gb269 ∧ k_ ≠ gb285) ho0 (fun k_ hk_ => ⟨Or.elim hk_ (fun hs_ => ((R_types (R_types (R_types (R_types (R_types (R_types (R_types (HO_233001.out) BK232.out (by decide)) BK244.out (by decide)) BK252.out (by decide)) BK260.out (by decide)) BK268.out (by decide)) BK269.out (by decide)) BK285.out (by decide)).1 k_ hs_.symm).1.1.1.1.1.1.1.1) (fun hn_ => (Kd.fresh' (R_lt (by (with_reducible repeat (first | apply R_alloc | apply R_drewN | apply R_drew)); exact HO_245001.out)) k_ hn_)), Or.elim hk_ (fun hs_ => ((R_types (R_types (R_types (R_types (R_types (R_types (R_types (HO_233001.out) BK232.out (by decide)) BK244.out (by decide)) BK252.out (by decide)) BK260.out (by decide)) BK268.out (by decide)) BK269.out (by decide)) BK285.out (by decide)).1 k_ hs_.symm).1.1.1.1.1.1.1.2.1) (fun hn_ => (Kd.fresh' (R_lt (by (with_reducible repeat (first | apply R_alloc | apply R_drewN | apply R_drew)); exact HO_269001.out)) k_ hn_)), Or.elim hk_ (fun hs_ => ((R_types (R_types (R_types (R_types (R_types (R_types (R_types (HO_233001.out) BK232.out (by decide)) BK244.out (by decide)) BK252.out (by decide)) BK260.out (by decide)) BK268.out (by decide)) BK269.out (by decide)) BK285.out (by decide)).1 k_ hs_.symm).1.1.1.1.1.1.1.2.2) (fun hn_ => (Kd.fresh' (R_lt (by (with_reducible repeat (first | apply R_alloc | apply R_drewN | apply R_drew)); exact HO_286001.out)) k_ hn_)), Or.elim hk_ (fun hs_ => ((R_types (R_types (R_types (R_types (R_types (R_types (R_types (HO_233001.out) BK232.out (by decide)) BK244.out (by decide)) BK252.out (by decide)) BK260.out (by decide)) BK268.out (by decide)) BK269.out (by decide)) BK285.out (by decide)).1 k_ hs_.symm).1.1.1.1.1.1.2) (fun hn_ => (Kd.freshB (g := gb232) (o := .cells #[.int .i64 t233, .slice Ao17 t234.length co17, .int .i64 t237] 35 (0, 0)) (by (with_reducible repeat (first | refine blk_drewN ?_ _ | refine blk_drew ?_ | refine blk_alloc ?_ _)); exact BK232.out) k_ hn_)), Or.elim hk_ (fun hs_ => ((R_types (R_types (R_types (R_types (R_types (R_types (R_types (HO_233001.out) BK232.out (by decide)) BK244.out (by decide)) BK252.out (by decide)) BK260.out (by decide)) BK268.out (by decide)) BK269.out (by decide)) BK285.out (by decide)).1 k_ hs_.symm).1.1.1.1.1.2) (fun hn_ => (Kd.freshB (g := gb244) (o := .cells #[.int .i64 t238, .slice Ao24 t239.length co24, .int .i64 t242] 35 (0, 0)) (by (with_reducible repeat (first | refine blk_drewN ?_ _ | refine blk_drew ?_ | refine blk_alloc ?_ _)); exact BK244.out) k_ hn_)), Or.elim hk_ (fun hs_ => ((R_types (R_types (R_types (R_types (R_types (R_types (R_types (HO_233001.out) BK232.out (by decide)) BK244.out (by decide)) BK252.out (by decide)) BK260.out (by decide)) BK268.out (by decide)) BK269.out (by decide)) BK285.out (by decide)).1 k_ hs_.symm).1.1.1.1.2) (fun hn_ => (Kd.freshB (g := gb252) (o := .cells #[.int .i64 t245, .slice Ao32 t246.length co32, .int .i64 t249] 35 (0, 0)) (by (with_reducible repeat (first | refine blk_drewN ?_ _ | refine blk_drew ?_ | refine blk_alloc ?_ _)); exact BK252.out) k_ hn_)), Or.elim hk_ (fun hs_ => ((R_types (R_types (R_types (R_types (R_types (R_types (R_types (HO_233001.out) BK232.out (by decide)) BK244.out (by decide)) BK252.out (by decide)) BK260.out (by decide)) BK268.out (by decide)) BK269.out (by decide)) BK285.out (by decide)).1 k_ hs_.symm).1.1.1.2) (fun hn_ => (Kd.freshB (g := gb260) (o := .cells #[.int .i64 t253, .slice Ao41 t254.length co41, .int .i64 t257] 35 (0, 0)) (by (with_reducible repeat (first | refine blk_drewN ?_ _ | refine blk_drew ?_ | refine blk_alloc ?_ _)); exact BK260.out) k_ hn_)), Or.elim hk_ (fun hs_ => ((R_types (R_types (R_types (R_types (R_types (R_types (R_types (HO_233001.out) BK232.out (by decide)) BK244.out (by decide)) BK252.out (by decide)) BK260.out (by decide)) BK268.out (by decide)) BK269.out (by decide)) BK285.out (by decide)).1 k_ hs_.symm).1.1.2) (fun hn_ => (Kd.freshB (g := gb268) (o := .cells #[.int .i64 t261, .slice Ao50 t262.length co50, .int .i64 t265] 35 (0, 0)) (by (with_reducible repeat (first | refine blk_drewN ?_ _ | refine blk_drew ?_ | refine blk_alloc ?_ _)); exact BK268.out) k_ hn_)), Or.elim hk_ (fun hs_ => ((R_types (R_types (R_types (R_types (R_types (R_types (R_types (HO_233001.out) BK232.out (by decide)) BK244.out (by decide)) BK252.out (by decide)) BK260.out (by decide)) BK268.out (by decide)) BK269.out (by decide)) BK285.out (by decide)).1 k_ hs_.symm).1.2) (fun hn_ => (Kd.freshB (g := gb269) (o := .cells #[.int .i64 0, .slice none 0 0, .int .i64 0] 35 (0, 0)) (by (with_reducible repeat (first | refine blk_drewN ?_ _ | refine blk_drew ?_ | refine blk_alloc ?_ _)); exact BK269.out) k_ hn_)), Or.elim hk_ (fun hs_ => ((R_types (R_types (R_types (R_types (R_types (R_types (R_types (HO_233001.out) BK232.out (by decide)) BK244.out (by decide)) BK252.out (by decide)) BK260.out (by decide)) BK268.out (by decide)) BK269.out (by decide)) BK285.out (by decide)).1 k_ hs_.symm).2) (fun hn_ => (Kd.freshB (g := gb285) (o := .cells #[.int .i64 t279, .slice Ao141 t280.length co141, .int .i64 t283] 35 (0, 0)) (by (with_reducible repeat (first | refine blk_drewN ?_ _ | refine blk_drew ?_ | refine blk_alloc ?_ _)); exact BK285.out) k_ hn_))⟩)) (below_size (by repeat (first | (with_reducible first | exact HB.out | apply below_alloc | apply pw_below_drewN | apply below_drew1 | refine below_set ?_ GE232.out | refine below_set ?_ GE244.out | refine below_set ?_ GE252.out | refine below_set ?_ GE260.out | refine below_set ?_ GE268.out | refine below_set ?_ GE269.out | refine below_set ?_ GE285.out) | exact HB.out)))); have n7_ := Aside0.mk (blk_below (g := gb232) (o := .cells #[.int .i64 t233, .slice Ao17 t234.length co17, .int .i64 t237] 35 (0, 0)) (by (with_reducible repeat (first | refine blk_drewN ?_ _ | refine blk_drew ?_ | refine blk_alloc ?_ _)); exact BK232.out) hb); have n8_ := Aside0.mk (blk_below (g := gb244) (o := .cells #[.int .i64 t238, .slice Ao24 t239.length co24, .int .i64 t242] 35 (0, 0)) (by (with_reducible repeat (first | refine blk_drewN ?_ _ | refine blk_drew ?_ | refine blk_alloc ?_ _)); exact BK244.out) hb); have n9_ := Aside0.mk (blk_below (g := gb252) (o := .cells #[.int .i64 t245, .slice Ao32 t246.length co32, .int .i64 t249] 35 (0, 0)) (by (with_reducible repeat (first | refine blk_drewN ?_ _ | refine blk_drew ?_ | refine blk_alloc ?_ _)); exact BK252.out) hb); have n10_ := Aside0.mk (blk_below (g := gb260) (o := .cells #[.int .i64 t253, .slice Ao41 t254.length co41, .int .i64 t257] 35 (0, 0)) (by (with_reducible repeat (first | refine blk_drewN ?_ _ | refine blk_drew ?_ | refine blk_alloc ?_ _)); exact BK260.out) hb); have n11_ := Aside0.mk (blk_below (g := gb268) (o := .cells #[.int .i64 t261, .slice Ao50 t262.length co50, .int .i64 t265] 35 (0, 0)) (by (with_reducible repeat (first | refine blk_drewN ?_ _ | refine blk_drew ?_ | refine blk_alloc ?_ _)); exact BK268.out) hb); have n12_ := Aside0.mk (blk_below (g := gb269) (o := .cells #[.int .i64 0, .slice none 0 0, .int .i64 0] 35 (0, 0)) (by (with_reducible repeat (first | refine blk_drewN ?_ _ | refine blk_drew ?_ | refine blk_alloc ?_ _)); exact BK269.out) hb); have n13_ := Aside0.mk (blk_below (g := gb285) (o := .cells #[.int .i64 t279, .slice Ao141 t280.length co141, .int .i64 t283] 35 (0, 0)) (by (with_reducible repeat (first | refine blk_drewN ?_ _ | refine blk_drew ?_ | refine blk_alloc ?_ _)); exact BK285.out) hb); have n14_ := Aside0.mk (below_step (by repeat (first | (with_reducible first | exact HB.out | apply below_alloc | apply pw_below_drewN | apply below_drew1 | refine below_set ?_ GE232.out | refine below_set ?_ GE244.out | refine below_set ?_ GE252.out | refine below_set ?_ GE260.out | refine below_set ?_ GE268.out | refine below_set ?_ GE269.out | refine below_set ?_ GE285.out) | exact HB.out)) hb); clear HO_233001; clear HO_245001; clear HO_253001; clear HO_261001; clear HO_269001; clear HO_286001; clear BK232; clear BK244; clear BK252; clear BK260; clear BK268; clear BK269; clear BK285; clear HB; have HO_233001 := n0_; have HO_245001 := n1_; have HO_253001 := n2_; have HO_261001 := n3_; have HO_269001 := n4_; have HO_286001 := n5_; have HO298 := n6_; have BK232 := n7_; have BK244 := n8_; have BK252 := n9_; have BK260 := n10_; have BK268 := n11_; have BK269 := n12_; have BK285 := n13_; have HB := n14_; clear n0_ n1_ n2_ n3_ n4_ n5_ n6_ n7_ n8_ n9_ n10_ n11_ n12_ n13_ n14_; (try clear hb); (try clear hb2); (try clear hk); (try clear hi); (try clear ho0)) | ((with_reducible refine gate_dst (N := 21) rfl ?_); refine box_event ?hg (N := 21) ?hd (cs := #[.int .i64 0, .slice none 0 0, .int .i64 0]) (t := 35) ?hr ?_; (case hd => rfl); (case hg => rfl); (case hr => first | (go_simp; done) | (go_simp; rfl)); intro gb301 hg w288 hbox hb; have n0_ := Aside0.mk (R_below (by (with_reducible repeat (first | apply R_alloc | apply R_drewN | apply R_drew)); exact HO_233001.out) hb); have n1_ := Aside0.mk (R_below (by (with_reducible repeat (first | apply R_alloc | apply R_drewN | apply R_drew)); exact HO_245001.out) hb); have n2_ := Aside0.mk (V_below (V_elderB (by (with_reducible repeat (first | apply V_alloc | apply V_drewN | apply V_drew)); exact HO_253001.out) gb301 (Nat.le_of_eq hg.symm)) hb); have n3_ := Aside0.mk (V_below (V_elderB (by (with_reducible repeat (first | apply V_alloc | apply V_drewN | apply V_drew)); exact HO_261001.out) gb301 (Nat.le_of_eq hg.symm)) hb); have n4_ := Aside0.mk (R_below (by (with_reducible repeat (first | apply R_alloc | apply R_drewN | apply R_drew)); exact HO_269001.out) hb); have n5_ := Aside0.mk (R_below (by (with_reducible repeat (first | apply R_alloc | apply R_drewN | apply R_drew)); exact HO_286001.out) hb); have n6_ := Aside0.mk (V_below (V_elderB (by (with_reducible repeat (first | apply V_alloc | apply V_drewN | apply V_drew)); exact HO298.out) gb301 (Nat.le_of_eq hg.symm)) hb); have n7_ := Aside0.mk (blk_below (g := gb232) (o := .cells #[.int .i64 t233, .slice Ao17 t234.length co17, .int .i64 t237] 35 (0, 0)) (by (with_reducible repeat (first | refine blk_drewN ?_ _ | refine blk_drew ?_ | refine blk_alloc ?_ _)); exact BK232.out) hb); have n8_ := Aside0.mk (blk_below (g := gb244) (o := .cells #[.int .i64 t238, .slice Ao24 t239.length co24, .int .i64 t242] 35 (0, 0)) (by (with_reducible repeat (first | refine blk_drewN ?_ _ | refine blk_drew ?_ | refine blk_alloc ?_ _)); exact BK244.out) hb); have n9_ := Aside0.mk (blk_below (g := gb252) (o := .cells #[.int .i64 t245, .slice Ao32 t246.length co32, .int .i64 t249] 35 (0, 0)) (by (with_reducible repeat (first | refine blk_drewN ?_ _ | refine blk_drew ?_ | refine blk_alloc ?_ _)); exact BK252.out) hb); have n10_ := Aside0.mk (blk_below (g := gb260) (o := .cells #[.int .i64 t253, .slice Ao41 t254.length co41, .int .i64 t257] 35 (0, 0)) (by (with_reducible repeat (first | refine blk_drewN ?_ _ | refine blk_drew ?_ | refine blk_alloc ?_ _)); exact BK260.out) hb); have n11_ := Aside0.mk (blk_below (g := gb268) (o := .cells #[.int .i64 t261, .slice Ao50 t262.length co50, .int .i64 t265] 35 (0, 0)) (by (with_reducible repeat (first | refine blk_drewN ?_ _ | refine blk_drew ?_ | refine blk_alloc ?_ _)); exact BK268.out) hb); have n12_ := Aside0.mk (blk_below (g := gb269) (o := .cells #[.int .i64 0, .slice none 0 0, .int .i64 0] 35 (0, 0)) (by (with_reducible repeat (first | refine blk_drewN ?_ _ | refine blk_drew ?_ | refine blk_alloc ?_ _)); exact BK269.out) hb); have n13_ := Aside0.mk (blk_below (g := gb285) (o := .cells #[.int .i64 t279, .slice Ao141 t280.length co141, .int .i64 t283] 35 (0, 0)) (by (with_reducible repeat (first | refine blk_drewN ?_ _ | refine blk_drew ?_ | refine blk_alloc ?_ _)); exact BK285.out) hb); have n14_ := Aside0.mk (below_step (by repeat (first | (with_reducible first | exact HB.out | apply below_alloc | apply pw_below_drewN | apply below_drew1 | refine below_set ?_ GE232.out | refine below_set ?_ GE244.out | refine below_set ?_ GE252.out | refine below_set ?_ GE260.out | refine below_set ?_ GE268.out | refine below_set ?_ GE269.out | refine below_set ?_ GE285.out) | exact HB.out)) hb); have n15_ := Aside0.mk (hbox); have n16_ := Aside0.mk ((by rw [hg]; exact (below_size (by repeat (first | (with_reducible first | exact HB.out | apply below_alloc | apply pw_below_drewN | apply below_drew1 | refine below_set ?_ GE232.out | refine below_set ?_ GE244.out | refine below_set ?_ GE252.out | refine below_set ?_ GE260.out | refine below_set ?_ GE268.out | refine below_set ?_ GE269.out | refine below_set ?_ GE285.out) | exact HB.out))) : w.heap.size ≤ gb301)); have n17_ := Aside0.mk ((by rw [hg]; exact (below_size (by repeat (first | (with_reducible first | exact HB.out | apply below_alloc | apply pw_below_drewN | apply below_drew1 | refine below_set ?_ GE232.out | refine below_set ?_ GE244.out | refine below_set ?_ GE252.out | refine below_set ?_ GE260.out | refine below_set ?_ GE268.out | refine below_set ?_ GE269.out | refine below_set ?_ GE285.out) | exact HB.out))) : w.heap.size ≤ gb301)); have n18_ := Aside0.mk ((by rw [hg]; exact Nat.ne_of_lt (blk_lt (g := gb232) (o := .cells #[.int .i64 t233, .slice Ao17 t234.length co17, .int .i64 t237] 35 (0, 0)) (by (with_reducible repeat (first | refine blk_drewN ?_ _ | refine blk_drew ?_ | refine blk_alloc ?_ _)); exact BK232.out)) : gb232 ≠ gb301)); have n19_ := Aside0.mk ((by rw [hg]; exact Nat.ne_of_gt (blk_lt (g := gb232) (o := .cells #[.int .i64 t233, .slice Ao17 t234.length co17, .int .i64 t237] 35 (0, 0)) (by (with_reducible repeat (first | refine blk_drewN ?_ _ | refine blk_drew ?_ | refine blk_alloc ?_ _)); exact BK232.out)) : gb301 ≠ gb232)); have n20_ := Aside0.mk ((by rw [hg]; exact Nat.ne_of_lt (blk_lt (g := gb244) (o := .cells #[.int .i64 t238, .slice Ao24 t239.length co24, .int .i64 t242] 35 (0, 0)) (by (with_reducible repeat (first | refine blk_drewN ?_ _ | refine blk_drew ?_ | refine blk_alloc ?_ _)); exact BK244.out)) : gb244 ≠ gb301)); have n21_ := Aside0.mk ((by rw [hg]; exact Nat.ne_of_gt (blk_lt (g := gb244) (o := .cells #[.int .i64 t238, .slice Ao24 t239.length co24, .int .i64 t242] 35 (0, 0)) (by (with_reducible repeat (first | refine blk_drewN ?_ _ | refine blk_drew ?_ | refine blk_alloc ?_ _)); exact BK244.out)) : gb301 ≠ gb244)); have n22_ := Aside0.mk ((by rw [hg]; exact Nat.ne_of_lt (blk_lt (g := gb252) (o := .cells #[.int .i64 t245, .slice Ao32 t246.length co32, .int .i64 t249] 35 (0, 0)) (by (with_reducible repeat (first | refine blk_drewN ?_ _ | refine blk_drew ?_ | refine blk_alloc ?_ _)); exact BK252.out)) : gb252 ≠ gb301)); have n23_ := Aside0.mk ((by rw [hg]; exact Nat.ne_of_gt (blk_lt (g := gb252) (o := .cells #[.int .i64 t245, .slice Ao32 t246.length co32, .int .i64 t249] 35 (0, 0)) (by (with_reducible repeat (first | refine blk_drewN ?_ _ | refine blk_drew ?_ | refine blk_alloc ?_ _)); exact BK252.out)) : gb301 ≠ gb252)); have n24_ := Aside0.mk ((by rw [hg]; exact Nat.ne_of_lt (blk_lt (g := gb260) (o := .cells #[.int .i64 t253, .slice Ao41 t254.length co41, .int .i64 t257] 35 (0, 0)) (by (with_reducible repeat (first | refine blk_drewN ?_ _ | refine blk_drew ?_ | refine blk_alloc ?_ _)); exact BK260.out)) : gb260 ≠ gb301)); have n25_ := Aside0.mk ((by rw [hg]; exact Nat.ne_of_gt (blk_lt (g := gb260) (o := .cells #[.int .i64 t253, .slice Ao41 t254.length co41, .int .i64 t257] 35 (0, 0)) (by (with_reducible repeat (first | refine blk_drewN ?_ _ | refine blk_drew ?_ | refine blk_alloc ?_ _)); exact BK260.out)) : gb301 ≠ gb260)); have n26_ := Aside0.mk ((by rw [hg]; exact Nat.ne_of_lt (blk_lt (g := gb268) (o := .cells #[.int .i64 t261, .slice Ao50 t262.length co50, .int .i64 t265] 35 (0, 0)) (by (with_reducible repeat (first | refine blk_drewN ?_ _ | refine blk_drew ?_ | refine blk_alloc ?_ _)); exact BK268.out)) : gb268 ≠ gb301)); have n27_ := Aside0.mk ((by rw [hg]; exact Nat.ne_of_gt (blk_lt (g := gb268) (o := .cells #[.int .i64 t261, .slice Ao50 t262.length co50, .int .i64 t265] 35 (0, 0)) (by (with_reducible repeat (first | refine blk_drewN ?_ _ | refine blk_drew ?_ | refine blk_alloc ?_ _)); exact BK268.out)) : gb301 ≠ gb268)); have n28_ := Aside0.mk ((by rw [hg]; exact Nat.ne_of_lt (blk_lt (g := gb269) (o := .cells #[.int .i64 0, .slice none 0 0, .int .i64 0] 35 (0, 0)) (by (with_reducible repeat (first | refine blk_drewN ?_ _ | refine blk_drew ?_ | refine blk_alloc ?_ _)); exact BK269.out)) : gb269 ≠ gb301)); have n29_ := Aside0.mk ((by rw [hg]; exact Nat.ne_of_gt (blk_lt (g := gb269) (o := .cells #[.int .i64 0, .slice none 0 0, .int .i64 0] 35 (0, 0)) (by (with_reducible repeat (first | refine blk_drewN ?_ _ | refine blk_drew ?_ | refine blk_alloc ?_ _)); exact BK269.out)) : gb301 ≠ gb269)); have n30_ := Aside0.mk ((by rw [hg]; exact Nat.ne_of_lt (blk_lt (g := gb285) (o := .cells #[.int .i64 t279, .slice Ao141 t280.length co141, .int .i64 t283] 35 (0, 0)) (by (with_reducible repeat (first | refine blk_drewN ?_ _ | refine blk_drew ?_ | refine blk_alloc ?_ _)); exact BK285.out)) : gb285 ≠ gb301)); have n31_ := Aside0.mk ((by rw [hg]; exact Nat.ne_of_gt (blk_lt (g := gb285) (o := .cells #[.int .i64 t279, .slice Ao141 t280.length co141, .int .i64 t283] 35 (0, 0)) (by (with_reducible repeat (first | refine blk_drewN ?_ _ | refine blk_drew ?_ | refine blk_alloc ?_ _)); exact BK285.out)) : gb301 ≠ gb285)); clear HO_233001; clear HO_245001; clear HO_253001; clear HO_261001; clear HO_269001; clear HO_286001; clear HO298; clear BK232; clear BK244; clear BK252; clear BK260; clear BK268; clear BK269; clear BK285; clear HB; have HO_233001 := n0_; have HO_245001 := n1_; have HO_253001 := n2_; have HO_261001 := n3_; have HO_269001 := n4_; have HO_286001 := n5_; have HO298 := n6_; have BK232 := n7_; have BK244 := n8_; have BK252 := n9_; have BK260 := n10_; have BK268 := n11_; have BK269 := n12_; have BK285 := n13_; have HB := n14_; have BK301 := n15_; have GW301 := n16_; have GE301 := n17_; have NB232_301 := n18_; have NB301_232 := n19_; have NB244_301 := n20_; have NB301_244 := n21_; have NB252_301 := n22_; have NB301_252 := n23_; have NB260_301 := n24_; have NB301_260 := n25_; have NB268_301 := n26_; have NB301_268 := n27_; have NB269_301 := n28_; have NB301_269 := n29_; have NB285_301 := n30_; have NB301_285 := n31_; clear n0_ n1_ n2_ n3_ n4_ n5_ n6_ n7_ n8_ n9_ n10_ n11_ n12_ n13_ n14_ n15_ n16_ n17_ n18_ n19_ n20_ n21_ n22_ n23_ n24_ n25_ n26_ n27_ n28_ n29_ n30_ n31_; clear hb hbox hg; have hnb289 := NB301_232.out; have hnc289 := NB232_301.out; have hnb290 := NB301_244.out; have hnc290 := NB244_301.out; have hnb291 := NB301_252.out; have hnc291 := NB252_301.out; have hnb292 := NB301_260.out; have hnc292 := NB260_301.out; have hnb293 := NB301_268.out; have hnc293 := NB268_301.out; have hnb294 := NB301_269.out; have hnc294 := NB269_301.out; have hnb295 := NB301_285.out; have hnc295 := NB285_301.out; have hcz296_0 : w288.cell? ⟨gb301, 0, none⟩ = some (.int .i64 0) := (blk_cell BK301.out 0).trans rfl; have hcz296_1 : w288.cell? ⟨gb301, 1, none⟩ = some (.slice none 0 0) := (blk_cell BK301.out 1).trans rfl; have hcz296_2 : w288.cell? ⟨gb301, 2, none⟩ = some (.int .i64 0) := (blk_cell BK301.out 2).trans rfl; have hfz296_0 := blk_frozen BK301.out 0; have hfz296_1 := blk_frozen BK301.out 1; have hfz296_2 := blk_frozen BK301.out 2; obtain ⟨Ao297, co297, eo297⟩ := V_slice HO298.out; subst eo297))
       go_ret
       exact ⟨by first | rfl | (simp [errW_none, errW_some] <;> rfl) | (simp only [← hji5]; first | rfl | (simp [errW_none, errW_some] <;> rfl)) | (simp [*, errW_none, errW_some] <;> rfl), by repeat (first | (with_reducible first | exact HB.out | apply below_alloc | apply pw_below_drewN | apply below_drew1 | refine below_set ?_ GE232.out | refine below_set ?_ GE244.out | refine below_set ?_ GE252.out | refine below_set ?_ GE260.out | refine below_set ?_ GE268.out | refine below_set ?_ GE269.out | refine below_set ?_ GE285.out | refine below_set ?_ GE301.out) | exact HB.out)⟩
end Go.Proofs.Ytnkkedkkjmehpaa.PQu
