/- The program with bpdu.sum turned into plain code: the same sum, one byte after the other, and as many blocks allotted; what is no slice of bytes it does not come through. The loaded program's facts, of it. Written by mktq.py. -/
import Derived.Test.YtnikfjfcbpeieaaChecked
import Derived.KernelRfl
namespace Go.Proofs.Ytnikfjfcbpeieaa
open Go
noncomputable def Tq.c68 : Code := (Code.seq (Code.region 0 #[{ dst := some 2, op := Op.assign (Operand.const (Value.int IntKind.u8 0)), type := 5, pos := "", after := #[], guard := none },
    { dst := some 3, op := Op.call { callee := Callee.builtin Builtin.len, args := #[Operand.tmp 0], argTypes := #[35] }, type := 3, pos := "", after := #[], guard := none },
    { dst := some 4, op := Op.slice 35 (Operand.tmp 0) none (some (Operand.tmp 3)) none, type := 35, pos := "", after := #[], guard := none },
    { dst := some 5, op := Op.move (Operand.const (Value.int IntKind.i64 0)), type := 3, pos := "", after := #[], guard := none },
    { dst := some 6, op := Op.binOp BinOp.leq 3 (Operand.tmp 3) (Operand.const (Value.int IntKind.i64 1000000000)) 3, type := 4, pos := "", after := #[], guard := none }] false)
  (Code.seq (Code.cond (Operand.tmp 6) Code.skip (Code.region 90 #[{ dst := some 15, op := Op.extract (Operand.const (Value.bool false)) 0, type := 0, pos := "", after := #[], guard := none }] false))
  (Code.seq (Code.block 0 (Code.loop (Code.seq (Code.region 1 #[{ dst := some 7, op := Op.binOp BinOp.lss 3 (Operand.tmp 5) (Operand.tmp 3) 3, type := 4, pos := "", after := #[], guard := none }] false)
  (Code.seq (Code.cond (Operand.tmp 7) Code.skip (Code.exit 0))
  (Code.seq (Code.region 2 #[{ dst := some 8, op := Op.indexAddr 35 (Operand.tmp 0) (Operand.tmp 5), type := 0, pos := "", after := #[], guard := none },
    { dst := some 9, op := Op.load 5 (Operand.tmp 8), type := 5, pos := "", after := #[], guard := none },
    { dst := some 10, op := Op.binOp BinOp.lss 5 (Operand.tmp 9) (Operand.const (Value.int IntKind.u8 256)) 5, type := 4, pos := "", after := #[], guard := none },
    { dst := some 11, op := Op.binOp BinOp.geq 5 (Operand.tmp 9) (Operand.const (Value.int IntKind.u8 0)) 5, type := 4, pos := "", after := #[], guard := none }] false)
  (Code.seq (Code.cond (Operand.tmp 10) Code.skip (Code.region 90 #[{ dst := some 15, op := Op.extract (Operand.const (Value.bool false)) 0, type := 0, pos := "", after := #[], guard := none }] false))
  (Code.seq (Code.cond (Operand.tmp 11) Code.skip (Code.region 90 #[{ dst := some 15, op := Op.extract (Operand.const (Value.bool false)) 0, type := 0, pos := "", after := #[], guard := none }] false))
  (Code.region 3 #[{ dst := some 12, op := Op.binOp BinOp.add 5 (Operand.tmp 2) (Operand.tmp 9) 5, type := 5, pos := "", after := #[], guard := none },
    { dst := some 2, op := Op.move (Operand.tmp 12), type := 5, pos := "", after := #[], guard := none },
    { dst := some 13, op := Op.binOp BinOp.add 3 (Operand.tmp 5) (Operand.const (Value.int IntKind.i64 1)) 3, type := 3, pos := "", after := #[], guard := none },
    { dst := some 5, op := Op.move (Operand.tmp 13), type := 3, pos := "", after := #[], guard := none }] false))))))))
  (Code.seq (Code.region 4 #[{ dst := some 14, op := Op.alloc 3, type := 0, pos := "", after := #[], guard := none },
    { dst := some 14, op := Op.alloc 3, type := 0, pos := "", after := #[], guard := none },
    { dst := some 14, op := Op.alloc 3, type := 0, pos := "", after := #[], guard := none },
    { dst := some 14, op := Op.alloc 3, type := 0, pos := "", after := #[], guard := none },
    { dst := some 14, op := Op.alloc 3, type := 0, pos := "", after := #[], guard := none }] false)
  Code.ret))))
noncomputable def Tq.f68 : Func := { Try.f68 with body := some Tq.c68, ntmps := 16, results := #[.tmp 2], tmpNames := #[] }
noncomputable def Tq.F : Array Func := Try.prog.funcs.setIfInBounds 68 Tq.f68
noncomputable def Tq.prog : Program := { Try.prog with funcs := Tq.F }
@[simp] theorem Tq.ntmps68 : Tq.f68.ntmps = 16 := rfl
@[simp] theorem Tq.results68 : Tq.f68.results = #[.tmp 2] := rfl
@[simp] theorem Tq.params68 : Tq.f68.params = #[35] := by kernel_rfl
@[simp] theorem Tq.nfree68 : Tq.f68.nfree = 0 := by kernel_rfl
@[simp] theorem Tq.func52 : Tq.prog.funcs[52]? = some Try.f52 := by kernel_rfl
@[simp] theorem Tq.zeroValue2 : ∀ (w : World), Sem.run Tq.prog (zeroValue 2) w = Result.ok (Value.int IntKind.i64 0) w := by intros; kernel_rfl
@[simp] theorem Tq.stoodInHeld85 : Tq.prog.stoodInHeld 85 = false := by kernel_rfl
@[simp] theorem Tq.func38 : Tq.prog.funcs[38]? = some Try.f38 := by kernel_rfl
@[simp] theorem Tq.func145 : Tq.prog.funcs[145]? = some Try.f145 := by kernel_rfl
@[simp] theorem Tq.stoodInHeld108 : Tq.prog.stoodInHeld 108 = false := by kernel_rfl
@[simp] theorem Tq.call106 : ∀ (args : Array Value) (w : World), Sem.run Tq.prog (callFunc 106 args) w = Result.ok (Next.enter 106 args) w := by intros; kernel_rfl
@[simp] theorem Tq.func1 : Tq.prog.funcs[1]? = some Try.f1 := by kernel_rfl
@[simp] theorem Tq.func47 : Tq.prog.funcs[47]? = some Try.f47 := by kernel_rfl
@[simp] theorem Tq.call75 : ∀ (args : Array Value) (w : World), Sem.run Tq.prog (callFunc 75 args) w = Result.ok (Next.enter 75 args) w := by intros; kernel_rfl
@[simp] theorem Tq.runUnderlying6 : ∀ (w : World), Sem.run Tq.prog (underlying 6) w = Result.ok (TypeDesc.int IntKind.u8) w := by intros; kernel_rfl
@[simp] theorem Tq.call76 : ∀ (args : Array Value) (w : World), Sem.run Tq.prog (callFunc 76 args) w = Result.ok (Next.enter 76 args) w := by intros; kernel_rfl
@[simp] theorem Tq.type91 : Tq.prog.types[91]? = some Try.t91 := by kernel_rfl
@[simp] theorem Tq.func24 : Tq.prog.funcs[24]? = some Try.f24 := by kernel_rfl
@[simp] theorem Tq.typeInfo23 : ∀ (w : World), Sem.run Tq.prog (typeInfo 23) w = Result.ok Try.t23 w := by intros; kernel_rfl
@[simp] theorem Tq.stoodInHeld89 : Tq.prog.stoodInHeld 89 = false := by kernel_rfl
@[simp] theorem Tq.type11 : Tq.prog.types[11]? = some Try.t11 := by kernel_rfl
@[simp] theorem Tq.typeInfo50 : ∀ (w : World), Sem.run Tq.prog (typeInfo 50) w = Result.ok Try.t50 w := by intros; kernel_rfl
@[simp] theorem Tq.func107 : Tq.prog.funcs[107]? = some Try.f107 := by kernel_rfl
@[simp] theorem Tq.func73 : Tq.prog.funcs[73]? = some Try.f73 := by kernel_rfl
@[simp] theorem Tq.stoodInHeld83 : Tq.prog.stoodInHeld 83 = false := by kernel_rfl
@[simp] theorem Tq.zeroValue10 : ∀ (w : World), Sem.run Tq.prog (zeroValue 10) w = Result.ok (Value.string { data := #[] }) w := by intros; kernel_rfl
@[simp] theorem Tq.sizeOf5 : ∀ (w : World), Sem.run Tq.prog (Go.sizeOf 5) w = Result.ok 1 w := by intros; kernel_rfl
@[simp] theorem Tq.sizeOf3 : ∀ (w : World), Sem.run Tq.prog (Go.sizeOf 3) w = Result.ok 1 w := by intros; kernel_rfl
@[simp] theorem Tq.isAgg8 : ∀ (w : World), Sem.run Tq.prog (isAgg 8) w = Result.ok true w := by intros; kernel_rfl
@[simp] theorem Tq.func105 : Tq.prog.funcs[105]? = some Try.f105 := by kernel_rfl
@[simp] theorem Tq.call71 : ∀ (args : Array Value) (w : World), Sem.run Tq.prog (callFunc 71 args) w = Result.ok (Next.enter 71 args) w := by intros; kernel_rfl
@[simp] theorem Tq.call46 : ∀ (args : Array Value) (w : World), Sem.run Tq.prog (callFunc 46 args) w = Result.ok (Next.enter 46 args) w := by intros; kernel_rfl
@[simp] theorem Tq.call13 : ∀ (args : Array Value) (w : World), Sem.run Tq.prog (callFunc 13 args) w = Result.ok (Next.enter 13 args) w := by intros; kernel_rfl
@[simp] theorem Tq.zeroValue113 : ∀ (w : World), Sem.run Tq.prog (zeroValue 113) w = Result.ok (Value.slice none 0 0) w := by intros; kernel_rfl
@[simp] theorem Tq.zeroValue12 : ∀ (w : World), Sem.run Tq.prog (zeroValue 12) w = Result.ok (Value.int IntKind.u64 0) w := by intros; kernel_rfl
@[simp] theorem Tq.func42 : Tq.prog.funcs[42]? = some Try.f42 := by kernel_rfl
@[simp] theorem Tq.sizeOf2 : ∀ (w : World), Sem.run Tq.prog (Go.sizeOf 2) w = Result.ok 1 w := by intros; kernel_rfl
@[simp] theorem Tq.func8 : Tq.prog.funcs[8]? = some Try.f8 := by kernel_rfl
@[simp] theorem Tq.call83 : ∀ (args : Array Value) (w : World), Sem.run Tq.prog (callFunc 83 args) w = Result.ok (Next.enter 83 args) w := by intros; kernel_rfl
@[simp] theorem Tq.zeroValue6 : ∀ (w : World), Sem.run Tq.prog (zeroValue 6) w = Result.ok (Value.int IntKind.u8 0) w := by intros; kernel_rfl
@[simp] theorem Tq.stoodInHeld162 : Tq.prog.stoodInHeld 162 = true := by kernel_rfl
@[simp] theorem Tq.call57 : ∀ (args : Array Value) (w : World), Sem.run Tq.prog (callFunc 57 args) w = Result.ok (Next.enter 57 args) w := by intros; kernel_rfl
@[simp] theorem Tq.call65 : ∀ (args : Array Value) (w : World), Sem.run Tq.prog (callFunc 65 args) w = Result.ok (Next.enter 65 args) w := by intros; kernel_rfl
@[simp] theorem Tq.isAgg11 : ∀ (w : World), Sem.run Tq.prog (isAgg 11) w = Result.ok false w := by intros; kernel_rfl
@[simp] theorem Tq.func151 : Tq.prog.funcs[151]? = some Try.f151 := by kernel_rfl
@[simp] theorem Tq.typeInfo6 : ∀ (w : World), Sem.run Tq.prog (typeInfo 6) w = Result.ok Try.t6 w := by intros; kernel_rfl
@[simp] theorem Tq.func104 : Tq.prog.funcs[104]? = some Try.f104 := by kernel_rfl
@[simp] theorem Tq.underlying50 : Tq.prog.underlying 50 =   some     (TypeDesc.struct       #[{ name := "Root", type := 3, offset := 0, embedded := false, tag := "", pkgPath := "", byteOffset := 0 },         { name := "Cost", type := 3, offset := 1, embedded := false, tag := "", pkgPath := "", byteOffset := 8 },         { name := "Bridge", type := 3, offset := 2, embedded := false, tag := "", pkgPath := "", byteOffset := 16 },         { name := "Port", type := 3, offset := 3, embedded := false, tag := "", pkgPath := "", byteOffset := 24 }]) := by kernel_rfl
@[simp] theorem Tq.call42 : ∀ (args : Array Value) (w : World), Sem.run Tq.prog (callFunc 42 args) w = Result.ok (Next.enter 42 args) w := by intros; kernel_rfl
@[simp] theorem Tq.func11 : Tq.prog.funcs[11]? = some Try.f11 := by kernel_rfl
@[simp] theorem Tq.call27 : ∀ (args : Array Value) (w : World), Sem.run Tq.prog (callFunc 27 args) w = Result.ok (Next.enter 27 args) w := by intros; kernel_rfl
@[simp] theorem Tq.call77 : ∀ (args : Array Value) (w : World), Sem.run Tq.prog (callFunc 77 args) w = Result.ok (Next.enter 77 args) w := by intros; kernel_rfl
@[simp] theorem Tq.func150 : Tq.prog.funcs[150]? = some Try.f150 := by kernel_rfl
@[simp] theorem Tq.func101 : Tq.prog.funcs[101]? = some Try.f101 := by kernel_rfl
@[simp] theorem Tq.call88 : ∀ (args : Array Value) (w : World), Sem.run Tq.prog (callFunc 88 args) w = Result.ok (Next.enter 88 args) w := by intros; kernel_rfl
@[simp] theorem Tq.type23 : Tq.prog.types[23]? = some Try.t23 := by kernel_rfl
@[simp] theorem Tq.isAgg4 : ∀ (w : World), Sem.run Tq.prog (isAgg 4) w = Result.ok false w := by intros; kernel_rfl
@[simp] theorem Tq.runUnderlying11 : ∀ (w : World), Sem.run Tq.prog (underlying 11) w = Result.ok TypeDesc.string w := by intros; kernel_rfl
@[simp] theorem Tq.func109 : Tq.prog.funcs[109]? = some Try.f109 := by kernel_rfl
@[simp] theorem Tq.stoodInHeld102 : Tq.prog.stoodInHeld 102 = false := by kernel_rfl
@[simp] theorem Tq.func41 : Tq.prog.funcs[41]? = some Try.f41 := by kernel_rfl
@[simp] theorem Tq.call52 : ∀ (args : Array Value) (w : World), Sem.run Tq.prog (callFunc 52 args) w = Result.ok (Next.enter 52 args) w := by intros; kernel_rfl
@[simp] theorem Tq.call33 : ∀ (args : Array Value) (w : World), Sem.run Tq.prog (callFunc 33 args) w = Result.ok (Next.enter 33 args) w := by intros; kernel_rfl
@[simp] theorem Tq.func143 : Tq.prog.funcs[143]? = some Try.f143 := by kernel_rfl
@[simp] theorem Tq.func96 : Tq.prog.funcs[96]? = some Try.f96 := by kernel_rfl
@[simp] theorem Tq.func136 : Tq.prog.funcs[136]? = some Try.f136 := by kernel_rfl
@[simp] theorem Tq.call81 : ∀ (args : Array Value) (w : World), Sem.run Tq.prog (callFunc 81 args) w = Result.ok (Next.enter 81 args) w := by intros; kernel_rfl
@[simp] theorem Tq.call17 : ∀ (args : Array Value) (w : World), Sem.run Tq.prog (callFunc 17 args) w = Result.ok (Next.enter 17 args) w := by intros; kernel_rfl
@[simp] theorem Tq.stoodInHeld103 : Tq.prog.stoodInHeld 103 = false := by kernel_rfl
@[simp] theorem Tq.call66 : ∀ (args : Array Value) (w : World), Sem.run Tq.prog (callFunc 66 args) w = Result.ok (Next.enter 66 args) w := by intros; kernel_rfl
@[simp] theorem Tq.stoodInHeld171 : Tq.prog.stoodInHeld 171 = true := by kernel_rfl
@[simp] theorem Tq.func26 : Tq.prog.funcs[26]? = some Try.f26 := by kernel_rfl
@[simp] theorem Tq.types_size : Tq.prog.types.size = 172 := by kernel_rfl
@[simp] theorem Tq.stoodInHeld107 : Tq.prog.stoodInHeld 107 = false := by kernel_rfl
@[simp] theorem Tq.stoodInHeld7 : Tq.prog.stoodInHeld 7 = false := by kernel_rfl
@[simp] theorem Tq.stoodInHeld19 : Tq.prog.stoodInHeld 19 = true := by kernel_rfl
@[simp] theorem Tq.sizeOf4 : ∀ (w : World), Sem.run Tq.prog (Go.sizeOf 4) w = Result.ok 1 w := by intros; kernel_rfl
@[simp] theorem Tq.call20 : ∀ (args : Array Value) (w : World), Sem.run Tq.prog (callFunc 20 args) w = Result.ok (Next.enter 20 args) w := by intros; kernel_rfl
@[simp] theorem Tq.typeInfo0 : ∀ (w : World), Sem.run Tq.prog (typeInfo 0) w = Result.ok Try.t0 w := by intros; kernel_rfl
@[simp] theorem Tq.runUnderlying3 : ∀ (w : World), Sem.run Tq.prog (underlying 3) w = Result.ok (TypeDesc.int IntKind.i64) w := by intros; kernel_rfl
@[simp] theorem Tq.func7 : Tq.prog.funcs[7]? = some Try.f7 := by kernel_rfl
@[simp] theorem Tq.stoodInHeld88 : Tq.prog.stoodInHeld 88 = false := by kernel_rfl
@[simp] theorem Tq.zeroValue91 : ∀ (w : World),   Sem.run Tq.prog (zeroValue 91) w =     Result.ok       (Value.agg         #[Value.int IntKind.u8 0, Value.int IntKind.u8 0, Value.int IntKind.u8 0, Value.int IntKind.u8 0,           Value.int IntKind.u8 0, Value.int IntKind.u8 0])       w := by intros; kernel_rfl
@[simp] theorem Tq.underlying10 : Tq.prog.underlying 10 = some TypeDesc.string := by kernel_rfl
@[simp] theorem Tq.func91 : Tq.prog.funcs[91]? = some Try.f91 := by kernel_rfl
@[simp] theorem Tq.typeInfo9 : ∀ (w : World), Sem.run Tq.prog (typeInfo 9) w = Result.ok Try.t9 w := by intros; kernel_rfl
@[simp] theorem Tq.underlying8 : Tq.prog.underlying 8 =   some     (TypeDesc.struct       #[{ name := "x", type := 2, offset := 0, embedded := false, tag := "", pkgPath := "runtime", byteOffset := 0 },         { name := "y", type := 3, offset := 1, embedded := false, tag := "", pkgPath := "runtime", byteOffset := 8 },         { name := "signed", type := 4, offset := 2, embedded := false, tag := "", pkgPath := "runtime",           byteOffset := 16 },         { name := "code", type := 6, offset := 3, embedded := false, tag := "", pkgPath := "runtime",           byteOffset := 17 }]) := by kernel_rfl
@[simp] theorem Tq.type2 : Tq.prog.types[2]? = some Try.t2 := by kernel_rfl
@[simp] theorem Tq.func14 : Tq.prog.funcs[14]? = some Try.f14 := by kernel_rfl
@[simp] theorem Tq.call49 : ∀ (args : Array Value) (w : World), Sem.run Tq.prog (callFunc 49 args) w = Result.ok (Next.enter 49 args) w := by intros; kernel_rfl
@[simp] theorem Tq.zeroValue1 : ∀ (w : World), Sem.run Tq.prog (zeroValue 1) w = Result.ok Value.nilFunc w := by intros; kernel_rfl
@[simp] theorem Tq.func77 : Tq.prog.funcs[77]? = some Try.f77 := by kernel_rfl
@[simp] theorem Tq.func39 : Tq.prog.funcs[39]? = some Try.f39 := by kernel_rfl
@[simp] theorem Tq.call121 : ∀ (args : Array Value) (w : World), Sem.run Tq.prog (callFunc 121 args) w = Result.ok (Next.enter 121 args) w := by intros; kernel_rfl
@[simp] theorem Tq.sizeOf9 : ∀ (w : World), Sem.run Tq.prog (Go.sizeOf 9) w = Result.ok 1 w := by intros; kernel_rfl
@[simp] theorem Tq.isAgg0 : ∀ (w : World), Sem.run Tq.prog (isAgg 0) w = Result.ok false w := by intros; kernel_rfl
@[simp] theorem Tq.call113 : ∀ (args : Array Value) (w : World), Sem.run Tq.prog (callFunc 113 args) w = Result.ok (Next.enter 113 args) w := by intros; kernel_rfl
@[simp] theorem Tq.func37 : Tq.prog.funcs[37]? = some Try.f37 := by kernel_rfl
@[simp] theorem Tq.stoodInHeld159 : Tq.prog.stoodInHeld 159 = true := by kernel_rfl
@[simp] theorem Tq.isAgg50 : ∀ (w : World), Sem.run Tq.prog (isAgg 50) w = Result.ok true w := by intros; kernel_rfl
@[simp] theorem Tq.func76 : Tq.prog.funcs[76]? = some Try.f76 := by kernel_rfl
@[simp] theorem Tq.func13 : Tq.prog.funcs[13]? = some Try.f13 := by kernel_rfl
@[simp] theorem Tq.call35 : ∀ (args : Array Value) (w : World), Sem.run Tq.prog (callFunc 35 args) w = Result.ok (Next.enter 35 args) w := by intros; kernel_rfl
@[simp] theorem Tq.call86 : ∀ (args : Array Value) (w : World), Sem.run Tq.prog (callFunc 86 args) w = Result.ok (Next.enter 86 args) w := by intros; kernel_rfl
@[simp] theorem Tq.func70 : Tq.prog.funcs[70]? = some Try.f70 := by kernel_rfl
@[simp] theorem Tq.call82 : ∀ (args : Array Value) (w : World), Sem.run Tq.prog (callFunc 82 args) w = Result.ok (Next.enter 82 args) w := by intros; kernel_rfl
@[simp] theorem Tq.zeroValue3 : ∀ (w : World), Sem.run Tq.prog (zeroValue 3) w = Result.ok (Value.int IntKind.i64 0) w := by intros; kernel_rfl
@[simp] theorem Tq.call18 : ∀ (args : Array Value) (w : World), Sem.run Tq.prog (callFunc 18 args) w = Result.ok (Next.enter 18 args) w := by intros; kernel_rfl
@[simp] theorem Tq.func115 : Tq.prog.funcs[115]? = some Try.f115 := by kernel_rfl
@[simp] theorem Tq.func119 : Tq.prog.funcs[119]? = some Try.f119 := by kernel_rfl
@[simp] theorem Tq.call55 : ∀ (args : Array Value) (w : World), Sem.run Tq.prog (callFunc 55 args) w = Result.ok (Next.enter 55 args) w := by intros; kernel_rfl
@[simp] theorem Tq.func113 : Tq.prog.funcs[113]? = some Try.f113 := by kernel_rfl
@[simp] theorem Tq.func75 : Tq.prog.funcs[75]? = some Try.f75 := by kernel_rfl
@[simp] theorem Tq.func46 : Tq.prog.funcs[46]? = some Try.f46 := by kernel_rfl
@[simp] theorem Tq.func103 : Tq.prog.funcs[103]? = some Try.f103 := by kernel_rfl
@[simp] theorem Tq.func72 : Tq.prog.funcs[72]? = some Try.f72 := by kernel_rfl
@[simp] theorem Tq.type52 : Tq.prog.types[52]? = some Try.t52 := by kernel_rfl
@[simp] theorem Tq.func35 : Tq.prog.funcs[35]? = some Try.f35 := by kernel_rfl
@[simp] theorem Tq.func135 : Tq.prog.funcs[135]? = some Try.f135 := by kernel_rfl
@[simp] theorem Tq.stoodInHeld50 : Tq.prog.stoodInHeld 50 = false := by kernel_rfl
@[simp] theorem Tq.func85 : Tq.prog.funcs[85]? = some Try.f85 := by kernel_rfl
@[simp] theorem Tq.stoodInHeld160 : Tq.prog.stoodInHeld 160 = true := by kernel_rfl
@[simp] theorem Tq.func102 : Tq.prog.funcs[102]? = some Try.f102 := by kernel_rfl
@[simp] theorem Tq.func132 : Tq.prog.funcs[132]? = some Try.f132 := by kernel_rfl
@[simp] theorem Tq.typeInfo113 : ∀ (w : World), Sem.run Tq.prog (typeInfo 113) w = Result.ok Try.t113 w := by intros; kernel_rfl
@[simp] theorem Tq.inits_eq : Tq.prog.inits = #[2] := by kernel_rfl
@[simp] theorem Tq.sizeOf10 : ∀ (w : World), Sem.run Tq.prog (Go.sizeOf 10) w = Result.ok 1 w := by intros; kernel_rfl
@[simp] theorem Tq.func83 : Tq.prog.funcs[83]? = some Try.f83 := by kernel_rfl
@[simp] theorem Tq.func19 : Tq.prog.funcs[19]? = some Try.f19 := by kernel_rfl
@[simp] theorem Tq.func50 : Tq.prog.funcs[50]? = some Try.f50 := by kernel_rfl
@[simp] theorem Tq.func92 : Tq.prog.funcs[92]? = some Try.f92 := by kernel_rfl
@[simp] theorem Tq.func63 : Tq.prog.funcs[63]? = some Try.f63 := by kernel_rfl
@[simp] theorem Tq.call60 : ∀ (args : Array Value) (w : World), Sem.run Tq.prog (callFunc 60 args) w = Result.ok (Next.enter 60 args) w := by intros; kernel_rfl
@[simp] theorem Tq.call6 : ∀ (args : Array Value) (w : World), Sem.run Tq.prog (callFunc 6 args) w = Result.ok (Next.enter 6 args) w := by intros; kernel_rfl
@[simp] theorem Tq.typeInfo4 : ∀ (w : World), Sem.run Tq.prog (typeInfo 4) w = Result.ok Try.t4 w := by intros; kernel_rfl
@[simp] theorem Tq.func112 : Tq.prog.funcs[112]? = some Try.f112 := by kernel_rfl
@[simp] theorem Tq.func84 : Tq.prog.funcs[84]? = some Try.f84 := by kernel_rfl
@[simp] theorem Tq.eqGuardType50 : Tq.prog.eqGuardType Tq.prog.depth 50 = false := by kernel_rfl
@[simp] theorem Tq.stoodInHeld80 : Tq.prog.stoodInHeld 80 = false := by kernel_rfl
@[simp] theorem Tq.underlying4 : Tq.prog.underlying 4 = some TypeDesc.bool := by kernel_rfl
@[simp] theorem Tq.sizeOf23 : ∀ (w : World), Sem.run Tq.prog (Go.sizeOf 23) w = Result.ok 4 w := by intros; kernel_rfl
@[simp] theorem Tq.func114 : Tq.prog.funcs[114]? = some Try.f114 := by kernel_rfl
@[simp] theorem Tq.call128 : ∀ (args : Array Value) (w : World), Sem.run Tq.prog (callFunc 128 args) w = Result.ok (Next.enter 128 args) w := by intros; kernel_rfl
@[simp] theorem Tq.func23 : Tq.prog.funcs[23]? = some Try.f23 := by kernel_rfl
@[simp] theorem Tq.func30 : Tq.prog.funcs[30]? = some Try.f30 := by kernel_rfl
@[simp] theorem Tq.stoodInHeld52 : Tq.prog.stoodInHeld 52 = false := by kernel_rfl
@[simp] theorem Tq.typeInfo1 : ∀ (w : World), Sem.run Tq.prog (typeInfo 1) w = Result.ok Try.t1 w := by intros; kernel_rfl
@[simp] theorem Tq.func124 : Tq.prog.funcs[124]? = some Try.f124 := by kernel_rfl
@[simp] theorem Tq.call16 : ∀ (args : Array Value) (w : World), Sem.run Tq.prog (callFunc 16 args) w = Result.ok (Next.enter 16 args) w := by intros; kernel_rfl
@[simp] theorem Tq.stoodInHeld75 : Tq.prog.stoodInHeld 75 = false := by kernel_rfl
@[simp] theorem Tq.func17 : Tq.prog.funcs[17]? = some Try.f17 := by kernel_rfl
@[simp] theorem Tq.stoodInHeld76 : Tq.prog.stoodInHeld 76 = false := by kernel_rfl
@[simp] theorem Tq.underlying11 : Tq.prog.underlying 11 = some TypeDesc.string := by kernel_rfl
@[simp] theorem Tq.call91 : ∀ (args : Array Value) (w : World), Sem.run Tq.prog (callFunc 91 args) w = Result.ok (Next.enter 91 args) w := by intros; kernel_rfl
@[simp] theorem Tq.func144 : Tq.prog.funcs[144]? = some Try.f144 := by kernel_rfl
@[simp] theorem Tq.call122 : ∀ (args : Array Value) (w : World), Sem.run Tq.prog (callFunc 122 args) w = Result.ok (Next.enter 122 args) w := by intros; kernel_rfl
@[simp] theorem Tq.zeroValue11 : ∀ (w : World), Sem.run Tq.prog (zeroValue 11) w = Result.ok (Value.string { data := #[] }) w := by intros; kernel_rfl
@[simp] theorem Tq.underlying35 : Tq.prog.underlying 35 = some (TypeDesc.slice 5) := by kernel_rfl
@[simp] theorem Tq.func54 : Tq.prog.funcs[54]? = some Try.f54 := by kernel_rfl
@[simp] theorem Tq.runUnderlying52 : ∀ (w : World),   Sem.run Tq.prog (underlying 52) w =     Result.ok       (TypeDesc.struct         #[{ name := "Vec", type := 50, offset := 0, embedded := false, tag := "", pkgPath := "", byteOffset := 0 },           { name := "Age", type := 3, offset := 4, embedded := false, tag := "", pkgPath := "", byteOffset := 32 }])       w := by intros; kernel_rfl
@[simp] theorem Tq.underlying113 : Tq.prog.underlying 113 = some (TypeDesc.slice 9) := by kernel_rfl
@[simp] theorem Tq.stoodInHeld14 : Tq.prog.stoodInHeld 14 = true := by kernel_rfl
@[simp] theorem Tq.stoodInHeld163 : Tq.prog.stoodInHeld 163 = true := by kernel_rfl
@[simp] theorem Tq.func40 : Tq.prog.funcs[40]? = some Try.f40 := by kernel_rfl
@[simp] theorem Tq.call38 : ∀ (args : Array Value) (w : World), Sem.run Tq.prog (callFunc 38 args) w = Result.ok (Next.enter 38 args) w := by intros; kernel_rfl
@[simp] theorem Tq.func58 : Tq.prog.funcs[58]? = some Try.f58 := by kernel_rfl
@[simp] theorem Tq.runUnderlying4 : ∀ (w : World), Sem.run Tq.prog (underlying 4) w = Result.ok TypeDesc.bool w := by intros; kernel_rfl
@[simp] theorem Tq.func31 : Tq.prog.funcs[31]? = some Try.f31 := by kernel_rfl
@[simp] theorem Tq.call14 : ∀ (args : Array Value) (w : World), Sem.run Tq.prog (callFunc 14 args) w = Result.ok (Next.enter 14 args) w := by intros; kernel_rfl
@[simp] theorem Tq.func65 : Tq.prog.funcs[65]? = some Try.f65 := by kernel_rfl
@[simp] theorem Tq.underlying0 : Tq.prog.underlying 0 = some (TypeDesc.tuple #[]) := by kernel_rfl
@[simp] theorem Tq.func137 : Tq.prog.funcs[137]? = some Try.f137 := by kernel_rfl
@[simp] theorem Tq.stoodInHeld117 : Tq.prog.stoodInHeld 117 = false := by kernel_rfl
@[simp] theorem Tq.func21 : Tq.prog.funcs[21]? = some Try.f21 := by kernel_rfl
@[simp] theorem Tq.call40 : ∀ (args : Array Value) (w : World), Sem.run Tq.prog (callFunc 40 args) w = Result.ok (Next.enter 40 args) w := by intros; kernel_rfl
@[simp] theorem Tq.isAgg91 : ∀ (w : World), Sem.run Tq.prog (isAgg 91) w = Result.ok true w := by intros; kernel_rfl
@[simp] theorem Tq.rt_eq : Tq.prog.rt =   { boundsError := 8, errorString := 10, plainError := 11, errorAddressString := 14, typeAssertionError := 15,     panicNilError := 16, unhashableTypeError := 19, string := 9, any := 20, int := 3, bool := 4, rune := 21, byte := 5 } := by kernel_rfl
@[simp] theorem Tq.type7 : Tq.prog.types[7]? = some Try.t7 := by kernel_rfl
@[simp] theorem Tq.typeInfo2 : ∀ (w : World), Sem.run Tq.prog (typeInfo 2) w = Result.ok Try.t2 w := by intros; kernel_rfl
@[simp] theorem Tq.call30 : ∀ (args : Array Value) (w : World), Sem.run Tq.prog (callFunc 30 args) w = Result.ok (Next.enter 30 args) w := by intros; kernel_rfl
@[simp] theorem Tq.underlying12 : Tq.prog.underlying 12 = some (TypeDesc.int IntKind.u64) := by kernel_rfl
@[simp] theorem Tq.sizeOf11 : ∀ (w : World), Sem.run Tq.prog (Go.sizeOf 11) w = Result.ok 1 w := by intros; kernel_rfl
@[simp] theorem Tq.func142 : Tq.prog.funcs[142]? = some Try.f142 := by kernel_rfl
@[simp] theorem Tq.stoodInHeld105 : Tq.prog.stoodInHeld 105 = false := by kernel_rfl
@[simp] theorem Tq.call90 : ∀ (args : Array Value) (w : World), Sem.run Tq.prog (callFunc 90 args) w = Result.ok (Next.enter 90 args) w := by intros; kernel_rfl
@[simp] theorem Tq.stoodInHeld79 : Tq.prog.stoodInHeld 79 = false := by kernel_rfl
@[simp] theorem Tq.typeInfo10 : ∀ (w : World), Sem.run Tq.prog (typeInfo 10) w = Result.ok Try.t10 w := by intros; kernel_rfl
@[simp] theorem Tq.sizeOf35 : ∀ (w : World), Sem.run Tq.prog (Go.sizeOf 35) w = Result.ok 1 w := by intros; kernel_rfl
@[simp] theorem Tq.call9 : ∀ (args : Array Value) (w : World), Sem.run Tq.prog (callFunc 9 args) w = Result.ok (Next.enter 9 args) w := by intros; kernel_rfl
@[simp] theorem Tq.func81 : Tq.prog.funcs[81]? = some Try.f81 := by kernel_rfl
@[simp] theorem Tq.func27 : Tq.prog.funcs[27]? = some Try.f27 := by kernel_rfl
@[simp] theorem Tq.call28 : ∀ (args : Array Value) (w : World), Sem.run Tq.prog (callFunc 28 args) w = Result.ok (Next.enter 28 args) w := by intros; kernel_rfl
@[simp] theorem Tq.type113 : Tq.prog.types[113]? = some Try.t113 := by kernel_rfl
@[simp] theorem Tq.underlying3 : Tq.prog.underlying 3 = some (TypeDesc.int IntKind.i64) := by kernel_rfl
@[simp] theorem Tq.call15 : ∀ (args : Array Value) (w : World), Sem.run Tq.prog (callFunc 15 args) w = Result.ok (Next.enter 15 args) w := by intros; kernel_rfl
@[simp] theorem Tq.call68 : ∀ (args : Array Value) (w : World), Sem.run Tq.prog (callFunc 68 args) w = Result.ok (Next.enter 68 args) w := by intros; kernel_rfl
@[simp] theorem Tq.typeInfo12 : ∀ (w : World), Sem.run Tq.prog (typeInfo 12) w = Result.ok Try.t12 w := by intros; kernel_rfl
@[simp] theorem Tq.func95 : Tq.prog.funcs[95]? = some Try.f95 := by kernel_rfl
@[simp] theorem Tq.func89 : Tq.prog.funcs[89]? = some Try.f89 := by kernel_rfl
@[simp] theorem Tq.eqGuardType8 : Tq.prog.eqGuardType Tq.prog.depth 8 = false := by kernel_rfl
@[simp] theorem Tq.underlying5 : Tq.prog.underlying 5 = some (TypeDesc.int IntKind.u8) := by kernel_rfl
@[simp] theorem Tq.call109 : ∀ (args : Array Value) (w : World), Sem.run Tq.prog (callFunc 109 args) w = Result.ok (Next.enter 109 args) w := by intros; kernel_rfl
@[simp] theorem Tq.zeroValue23 : ∀ (w : World),   Sem.run Tq.prog (zeroValue 23) w =     Result.ok       (Value.agg         #[Value.int IntKind.i64 0, Value.int IntKind.i64 0, Value.int IntKind.i64 0, Value.string { data := #[] }])       w := by intros; kernel_rfl
@[simp] theorem Tq.type0 : Tq.prog.types[0]? = some Try.t0 := by kernel_rfl
@[simp] theorem Tq.func108 : Tq.prog.funcs[108]? = some Try.f108 := by kernel_rfl
@[simp] theorem Tq.runUnderlying5 : ∀ (w : World), Sem.run Tq.prog (underlying 5) w = Result.ok (TypeDesc.int IntKind.u8) w := by intros; kernel_rfl
@[simp] theorem Tq.func18 : Tq.prog.funcs[18]? = some Try.f18 := by kernel_rfl
@[simp] theorem Tq.func134 : Tq.prog.funcs[134]? = some Try.f134 := by kernel_rfl
@[simp] theorem Tq.func71 : Tq.prog.funcs[71]? = some Try.f71 := by kernel_rfl
@[simp] theorem Tq.call48 : ∀ (args : Array Value) (w : World), Sem.run Tq.prog (callFunc 48 args) w = Result.ok (Next.enter 48 args) w := by intros; kernel_rfl
@[simp] theorem Tq.func141 : Tq.prog.funcs[141]? = some Try.f141 := by kernel_rfl
@[simp] theorem Tq.call39 : ∀ (args : Array Value) (w : World), Sem.run Tq.prog (callFunc 39 args) w = Result.ok (Next.enter 39 args) w := by intros; kernel_rfl
@[simp] theorem Tq.underlying52 : Tq.prog.underlying 52 =   some     (TypeDesc.struct       #[{ name := "Vec", type := 50, offset := 0, embedded := false, tag := "", pkgPath := "", byteOffset := 0 },         { name := "Age", type := 3, offset := 4, embedded := false, tag := "", pkgPath := "", byteOffset := 32 }]) := by kernel_rfl
@[simp] theorem Tq.func69 : Tq.prog.funcs[69]? = some Try.f69 := by kernel_rfl
@[simp] theorem Tq.func133 : Tq.prog.funcs[133]? = some Try.f133 := by kernel_rfl
@[simp] theorem Tq.runUnderlying50 : ∀ (w : World),   Sem.run Tq.prog (underlying 50) w =     Result.ok       (TypeDesc.struct         #[{ name := "Root", type := 3, offset := 0, embedded := false, tag := "", pkgPath := "", byteOffset := 0 },           { name := "Cost", type := 3, offset := 1, embedded := false, tag := "", pkgPath := "", byteOffset := 8 },           { name := "Bridge", type := 3, offset := 2, embedded := false, tag := "", pkgPath := "", byteOffset := 16 },           { name := "Port", type := 3, offset := 3, embedded := false, tag := "", pkgPath := "", byteOffset := 24 }])       w := by intros; kernel_rfl
@[simp] theorem Tq.stoodInHeld170 : Tq.prog.stoodInHeld 170 = true := by kernel_rfl
@[simp] theorem Tq.typeInfo3 : ∀ (w : World), Sem.run Tq.prog (typeInfo 3) w = Result.ok Try.t3 w := by intros; kernel_rfl
@[simp] theorem Tq.call21 : ∀ (args : Array Value) (w : World), Sem.run Tq.prog (callFunc 21 args) w = Result.ok (Next.enter 21 args) w := by intros; kernel_rfl
@[simp] theorem Tq.func90 : Tq.prog.funcs[90]? = some Try.f90 := by kernel_rfl
@[simp] theorem Tq.call19 : ∀ (args : Array Value) (w : World), Sem.run Tq.prog (callFunc 19 args) w = Result.ok (Next.enter 19 args) w := by intros; kernel_rfl
@[simp] theorem Tq.func106 : Tq.prog.funcs[106]? = some Try.f106 := by kernel_rfl
@[simp] theorem Tq.stoodInHeld84 : Tq.prog.stoodInHeld 84 = false := by kernel_rfl
@[simp] theorem Tq.call112 : ∀ (args : Array Value) (w : World), Sem.run Tq.prog (callFunc 112 args) w = Result.ok (Next.enter 112 args) w := by intros; kernel_rfl
@[simp] theorem Tq.call59 : ∀ (args : Array Value) (w : World), Sem.run Tq.prog (callFunc 59 args) w = Result.ok (Next.enter 59 args) w := by intros; kernel_rfl
@[simp] theorem Tq.call84 : ∀ (args : Array Value) (w : World), Sem.run Tq.prog (callFunc 84 args) w = Result.ok (Next.enter 84 args) w := by intros; kernel_rfl
@[simp] theorem Tq.isAgg2 : ∀ (w : World), Sem.run Tq.prog (isAgg 2) w = Result.ok false w := by intros; kernel_rfl
@[simp] theorem Tq.zeroValue5 : ∀ (w : World), Sem.run Tq.prog (zeroValue 5) w = Result.ok (Value.int IntKind.u8 0) w := by intros; kernel_rfl
@[simp] theorem Tq.func138 : Tq.prog.funcs[138]? = some Try.f138 := by kernel_rfl
@[simp] theorem Tq.runUnderlying0 : ∀ (w : World), Sem.run Tq.prog (underlying 0) w = Result.ok (TypeDesc.tuple #[]) w := by intros; kernel_rfl
@[simp] theorem Tq.func43 : Tq.prog.funcs[43]? = some Try.f43 := by kernel_rfl
@[simp] theorem Tq.underlying2 : Tq.prog.underlying 2 = some (TypeDesc.int IntKind.i64) := by kernel_rfl
@[simp] theorem Tq.call12 : ∀ (args : Array Value) (w : World), Sem.run Tq.prog (callFunc 12 args) w = Result.ok (Next.enter 12 args) w := by intros; kernel_rfl
@[simp] theorem Tq.sizeOf8 : ∀ (w : World), Sem.run Tq.prog (Go.sizeOf 8) w = Result.ok 4 w := by intros; kernel_rfl
@[simp] theorem Tq.call72 : ∀ (args : Array Value) (w : World), Sem.run Tq.prog (callFunc 72 args) w = Result.ok (Next.enter 72 args) w := by intros; kernel_rfl
@[simp] theorem Tq.main_eq : Tq.prog.main = 0 := by kernel_rfl
@[simp] theorem Tq.func148 : Tq.prog.funcs[148]? = some Try.f148 := by kernel_rfl
@[simp] theorem Tq.call63 : ∀ (args : Array Value) (w : World), Sem.run Tq.prog (callFunc 63 args) w = Result.ok (Next.enter 63 args) w := by intros; kernel_rfl
@[simp] theorem Tq.sizeOf6 : ∀ (w : World), Sem.run Tq.prog (Go.sizeOf 6) w = Result.ok 1 w := by intros; kernel_rfl
@[simp] theorem Tq.call101 : ∀ (args : Array Value) (w : World), Sem.run Tq.prog (callFunc 101 args) w = Result.ok (Next.enter 101 args) w := by intros; kernel_rfl
@[simp] theorem Tq.call62 : ∀ (args : Array Value) (w : World), Sem.run Tq.prog (callFunc 62 args) w = Result.ok (Next.enter 62 args) w := by intros; kernel_rfl
@[simp] theorem Tq.type6 : Tq.prog.types[6]? = some Try.t6 := by kernel_rfl
@[simp] theorem Tq.func122 : Tq.prog.funcs[122]? = some Try.f122 := by kernel_rfl
@[simp] theorem Tq.call10 : ∀ (args : Array Value) (w : World), Sem.run Tq.prog (callFunc 10 args) w = Result.ok (Next.enter 10 args) w := by intros; kernel_rfl
@[simp] theorem Tq.func125 : Tq.prog.funcs[125]? = some Try.f125 := by kernel_rfl
@[simp] theorem Tq.type8 : Tq.prog.types[8]? = some Try.t8 := by kernel_rfl
@[simp] theorem Tq.call70 : ∀ (args : Array Value) (w : World), Sem.run Tq.prog (callFunc 70 args) w = Result.ok (Next.enter 70 args) w := by intros; kernel_rfl
@[simp] theorem Tq.func4 : Tq.prog.funcs[4]? = some Try.f4 := by kernel_rfl
@[simp] theorem Tq.func139 : Tq.prog.funcs[139]? = some Try.f139 := by kernel_rfl
@[simp] theorem Tq.func99 : Tq.prog.funcs[99]? = some Try.f99 := by kernel_rfl
@[simp] theorem Tq.call8 : ∀ (args : Array Value) (w : World), Sem.run Tq.prog (callFunc 8 args) w = Result.ok (Next.enter 8 args) w := by intros; kernel_rfl
@[simp] theorem Tq.type3 : Tq.prog.types[3]? = some Try.t3 := by kernel_rfl
@[simp] theorem Tq.func60 : Tq.prog.funcs[60]? = some Try.f60 := by kernel_rfl
@[simp] theorem Tq.call69 : ∀ (args : Array Value) (w : World), Sem.run Tq.prog (callFunc 69 args) w = Result.ok (Next.enter 69 args) w := by intros; kernel_rfl
@[simp] theorem Tq.func98 : Tq.prog.funcs[98]? = some Try.f98 := by kernel_rfl
@[simp] theorem Tq.call47 : ∀ (args : Array Value) (w : World), Sem.run Tq.prog (callFunc 47 args) w = Result.ok (Next.enter 47 args) w := by intros; kernel_rfl
@[simp] theorem Tq.underlying1 : Tq.prog.underlying 1 = some (TypeDesc.func #[] #[] false) := by kernel_rfl
@[simp] theorem Tq.call7 : ∀ (args : Array Value) (w : World), Sem.run Tq.prog (callFunc 7 args) w = Result.ok (Next.enter 7 args) w := by intros; kernel_rfl
@[simp] theorem Tq.func16 : Tq.prog.funcs[16]? = some Try.f16 := by kernel_rfl
@[simp] theorem Tq.call11 : ∀ (args : Array Value) (w : World), Sem.run Tq.prog (callFunc 11 args) w = Result.ok (Next.enter 11 args) w := by intros; kernel_rfl
@[simp] theorem Tq.eqGuardType52 : Tq.prog.eqGuardType Tq.prog.depth 52 = false := by kernel_rfl
@[simp] theorem Tq.zeroValue50 : ∀ (w : World),   Sem.run Tq.prog (zeroValue 50) w =     Result.ok       (Value.agg #[Value.int IntKind.i64 0, Value.int IntKind.i64 0, Value.int IntKind.i64 0, Value.int IntKind.i64 0])       w := by intros; kernel_rfl
@[simp] theorem Tq.func28 : Tq.prog.funcs[28]? = some Try.f28 := by kernel_rfl
@[simp] theorem Tq.func67 : Tq.prog.funcs[67]? = some Try.f67 := by kernel_rfl
@[simp] theorem Tq.call5 : ∀ (args : Array Value) (w : World), Sem.run Tq.prog (callFunc 5 args) w = Result.ok (Next.enter 5 args) w := by intros; kernel_rfl
@[simp] theorem Tq.func22 : Tq.prog.funcs[22]? = some Try.f22 := by kernel_rfl
@[simp] theorem Tq.type12 : Tq.prog.types[12]? = some Try.t12 := by kernel_rfl
@[simp] theorem Tq.func10 : Tq.prog.funcs[10]? = some Try.f10 := by kernel_rfl
@[simp] theorem Tq.call41 : ∀ (args : Array Value) (w : World), Sem.run Tq.prog (callFunc 41 args) w = Result.ok (Next.enter 41 args) w := by intros; kernel_rfl
@[simp] theorem Tq.sizeOf50 : ∀ (w : World), Sem.run Tq.prog (Go.sizeOf 50) w = Result.ok 4 w := by intros; kernel_rfl
@[simp] theorem Tq.type35 : Tq.prog.types[35]? = some Try.t35 := by kernel_rfl
@[simp] theorem Tq.zeroValue35 : ∀ (w : World), Sem.run Tq.prog (zeroValue 35) w = Result.ok (Value.slice none 0 0) w := by intros; kernel_rfl
@[simp] theorem Tq.zeroValue0 : ∀ (w : World), Sem.run Tq.prog (zeroValue 0) w = Result.ok (Value.tuple #[]) w := by intros; kernel_rfl
@[simp] theorem Tq.call87 : ∀ (args : Array Value) (w : World), Sem.run Tq.prog (callFunc 87 args) w = Result.ok (Next.enter 87 args) w := by intros; kernel_rfl
@[simp] theorem Tq.stoodInHeld86 : Tq.prog.stoodInHeld 86 = false := by kernel_rfl
@[simp] theorem Tq.func121 : Tq.prog.funcs[121]? = some Try.f121 := by kernel_rfl
@[simp] theorem Tq.func100 : Tq.prog.funcs[100]? = some Try.f100 := by kernel_rfl
@[simp] theorem Tq.call124 : ∀ (args : Array Value) (w : World), Sem.run Tq.prog (callFunc 124 args) w = Result.ok (Next.enter 124 args) w := by intros; kernel_rfl
@[simp] theorem Tq.func93 : Tq.prog.funcs[93]? = some Try.f93 := by kernel_rfl
@[simp] theorem Tq.runUnderlying1 : ∀ (w : World), Sem.run Tq.prog (underlying 1) w = Result.ok (TypeDesc.func #[] #[] false) w := by intros; kernel_rfl
@[simp] theorem Tq.func120 : Tq.prog.funcs[120]? = some Try.f120 := by kernel_rfl
@[simp] theorem Tq.call56 : ∀ (args : Array Value) (w : World), Sem.run Tq.prog (callFunc 56 args) w = Result.ok (Next.enter 56 args) w := by intros; kernel_rfl
@[simp] theorem Tq.runUnderlying91 : ∀ (w : World), Sem.run Tq.prog (underlying 91) w = Result.ok (TypeDesc.array 6 5) w := by intros; kernel_rfl
@[simp] theorem Tq.sizeOf7 : ∀ (w : World), Sem.run Tq.prog (Go.sizeOf 7) w = Result.ok 4 w := by intros; kernel_rfl
@[simp] theorem Tq.func2 : Tq.prog.funcs[2]? = some Try.f2 := by kernel_rfl
@[simp] theorem Tq.func117 : Tq.prog.funcs[117]? = some Try.f117 := by kernel_rfl
@[simp] theorem Tq.func3 : Tq.prog.funcs[3]? = some Try.f3 := by kernel_rfl
@[simp] theorem Tq.sizeOf12 : ∀ (w : World), Sem.run Tq.prog (Go.sizeOf 12) w = Result.ok 1 w := by intros; kernel_rfl
@[simp] theorem Tq.call43 : ∀ (args : Array Value) (w : World), Sem.run Tq.prog (callFunc 43 args) w = Result.ok (Next.enter 43 args) w := by intros; kernel_rfl
@[simp] theorem Tq.func29 : Tq.prog.funcs[29]? = some Try.f29 := by kernel_rfl
@[simp] theorem Tq.call79 : ∀ (args : Array Value) (w : World), Sem.run Tq.prog (callFunc 79 args) w = Result.ok (Next.enter 79 args) w := by intros; kernel_rfl
@[simp] theorem Tq.isAgg9 : ∀ (w : World), Sem.run Tq.prog (isAgg 9) w = Result.ok false w := by intros; kernel_rfl
@[simp] theorem Tq.call51 : ∀ (args : Array Value) (w : World), Sem.run Tq.prog (callFunc 51 args) w = Result.ok (Next.enter 51 args) w := by intros; kernel_rfl
@[simp] theorem Tq.func20 : Tq.prog.funcs[20]? = some Try.f20 := by kernel_rfl
@[simp] theorem Tq.isAgg1 : ∀ (w : World), Sem.run Tq.prog (isAgg 1) w = Result.ok false w := by intros; kernel_rfl
@[simp] theorem Tq.typeInfo52 : ∀ (w : World), Sem.run Tq.prog (typeInfo 52) w = Result.ok Try.t52 w := by intros; kernel_rfl
@[simp] theorem Tq.stoodInHeld106 : Tq.prog.stoodInHeld 106 = false := by kernel_rfl
@[simp] theorem Tq.isAgg6 : ∀ (w : World), Sem.run Tq.prog (isAgg 6) w = Result.ok false w := by intros; kernel_rfl
@[simp] theorem Tq.func80 : Tq.prog.funcs[80]? = some Try.f80 := by kernel_rfl
@[simp] theorem Tq.func0 : Tq.prog.funcs[0]? = some Try.f0 := by kernel_rfl
@[simp] theorem Tq.func152 : Tq.prog.funcs[152]? = some Try.f152 := by kernel_rfl
@[simp] theorem Tq.runUnderlying9 : ∀ (w : World), Sem.run Tq.prog (underlying 9) w = Result.ok TypeDesc.string w := by intros; kernel_rfl
@[simp] theorem Tq.call3 : ∀ (args : Array Value) (w : World), Sem.run Tq.prog (callFunc 3 args) w = Result.ok (Next.enter 3 args) w := by intros; kernel_rfl
@[simp] theorem Tq.call32 : ∀ (args : Array Value) (w : World), Sem.run Tq.prog (callFunc 32 args) w = Result.ok (Next.enter 32 args) w := by intros; kernel_rfl
@[simp] theorem Tq.call31 : ∀ (args : Array Value) (w : World), Sem.run Tq.prog (callFunc 31 args) w = Result.ok (Next.enter 31 args) w := by intros; kernel_rfl
@[simp] theorem Tq.func66 : Tq.prog.funcs[66]? = some Try.f66 := by kernel_rfl
@[simp] theorem Tq.underlying23 : Tq.prog.underlying 23 =   some     (TypeDesc.struct       #[{ name := "Dst", type := 3, offset := 0, embedded := false, tag := "", pkgPath := "", byteOffset := 0 },         { name := "Src", type := 3, offset := 1, embedded := false, tag := "", pkgPath := "", byteOffset := 8 },         { name := "Type", type := 3, offset := 2, embedded := false, tag := "", pkgPath := "", byteOffset := 16 },         { name := "Data", type := 9, offset := 3, embedded := false, tag := "", pkgPath := "", byteOffset := 24 }]) := by kernel_rfl
@[simp] theorem Tq.func5 : Tq.prog.funcs[5]? = some Try.f5 := by kernel_rfl
@[simp] theorem Tq.stoodInHeld23 : Tq.prog.stoodInHeld 23 = false := by kernel_rfl
@[simp] theorem Tq.underlying6 : Tq.prog.underlying 6 = some (TypeDesc.int IntKind.u8) := by kernel_rfl
@[simp] theorem Tq.func153 : Tq.prog.funcs[153]? = some Try.f153 := by kernel_rfl
@[simp] theorem Tq.func129 : Tq.prog.funcs[129]? = some Try.f129 := by kernel_rfl
@[simp] theorem Tq.func74 : Tq.prog.funcs[74]? = some Try.f74 := by kernel_rfl
@[simp] theorem Tq.call80 : ∀ (args : Array Value) (w : World), Sem.run Tq.prog (callFunc 80 args) w = Result.ok (Next.enter 80 args) w := by intros; kernel_rfl
@[simp] theorem Tq.func131 : Tq.prog.funcs[131]? = some Try.f131 := by kernel_rfl
@[simp] theorem Tq.isAgg3 : ∀ (w : World), Sem.run Tq.prog (isAgg 3) w = Result.ok false w := by intros; kernel_rfl
@[simp] theorem Tq.func111 : Tq.prog.funcs[111]? = some Try.f111 := by kernel_rfl
@[simp] theorem Tq.func86 : Tq.prog.funcs[86]? = some Try.f86 := by kernel_rfl
@[simp] theorem Tq.call58 : ∀ (args : Array Value) (w : World), Sem.run Tq.prog (callFunc 58 args) w = Result.ok (Next.enter 58 args) w := by intros; kernel_rfl
@[simp] theorem Tq.func97 : Tq.prog.funcs[97]? = some Try.f97 := by kernel_rfl
@[simp] theorem Tq.func118 : Tq.prog.funcs[118]? = some Try.f118 := by kernel_rfl
@[simp] theorem Tq.eqGuardType7 : Tq.prog.eqGuardType Tq.prog.depth 7 = false := by kernel_rfl
@[simp] theorem Tq.eqGuardType23 : Tq.prog.eqGuardType Tq.prog.depth 23 = false := by kernel_rfl
@[simp] theorem Tq.underlying7 : Tq.prog.underlying 7 =   some     (TypeDesc.struct       #[{ name := "x", type := 2, offset := 0, embedded := false, tag := "", pkgPath := "runtime", byteOffset := 0 },         { name := "y", type := 3, offset := 1, embedded := false, tag := "", pkgPath := "runtime", byteOffset := 8 },         { name := "signed", type := 4, offset := 2, embedded := false, tag := "", pkgPath := "runtime",           byteOffset := 16 },         { name := "code", type := 6, offset := 3, embedded := false, tag := "", pkgPath := "runtime",           byteOffset := 17 }]) := by kernel_rfl
@[simp] theorem Tq.call23 : ∀ (args : Array Value) (w : World), Sem.run Tq.prog (callFunc 23 args) w = Result.ok (Next.enter 23 args) w := by intros; kernel_rfl
@[simp] theorem Tq.stoodInHeld13 : Tq.prog.stoodInHeld 13 = true := by kernel_rfl
@[simp] theorem Tq.func154 : Tq.prog.funcs[154]? = some Try.f154 := by kernel_rfl
@[simp] theorem Tq.zeroValue9 : ∀ (w : World), Sem.run Tq.prog (zeroValue 9) w = Result.ok (Value.string { data := #[] }) w := by intros; kernel_rfl
@[simp] theorem Tq.call22 : ∀ (args : Array Value) (w : World), Sem.run Tq.prog (callFunc 22 args) w = Result.ok (Next.enter 22 args) w := by intros; kernel_rfl
@[simp] theorem Tq.call130 : ∀ (args : Array Value) (w : World), Sem.run Tq.prog (callFunc 130 args) w = Result.ok (Next.enter 130 args) w := by intros; kernel_rfl
@[simp] theorem Tq.call29 : ∀ (args : Array Value) (w : World), Sem.run Tq.prog (callFunc 29 args) w = Result.ok (Next.enter 29 args) w := by intros; kernel_rfl
@[simp] theorem Tq.func87 : Tq.prog.funcs[87]? = some Try.f87 := by kernel_rfl
@[simp] theorem Tq.typeInfo91 : ∀ (w : World), Sem.run Tq.prog (typeInfo 91) w = Result.ok Try.t91 w := by intros; kernel_rfl
@[simp] theorem Tq.underlying9 : Tq.prog.underlying 9 = some TypeDesc.string := by kernel_rfl
@[simp] theorem Tq.call61 : ∀ (args : Array Value) (w : World), Sem.run Tq.prog (callFunc 61 args) w = Result.ok (Next.enter 61 args) w := by intros; kernel_rfl
@[simp] theorem Tq.func9 : Tq.prog.funcs[9]? = some Try.f9 := by kernel_rfl
@[simp] theorem Tq.func12 : Tq.prog.funcs[12]? = some Try.f12 := by kernel_rfl
@[simp] theorem Tq.func62 : Tq.prog.funcs[62]? = some Try.f62 := by kernel_rfl
@[simp] theorem Tq.func34 : Tq.prog.funcs[34]? = some Try.f34 := by kernel_rfl
@[simp] theorem Tq.runUnderlying7 : ∀ (w : World),   Sem.run Tq.prog (underlying 7) w =     Result.ok       (TypeDesc.struct         #[{ name := "x", type := 2, offset := 0, embedded := false, tag := "", pkgPath := "runtime", byteOffset := 0 },           { name := "y", type := 3, offset := 1, embedded := false, tag := "", pkgPath := "runtime", byteOffset := 8 },           { name := "signed", type := 4, offset := 2, embedded := false, tag := "", pkgPath := "runtime",             byteOffset := 16 },           { name := "code", type := 6, offset := 3, embedded := false, tag := "", pkgPath := "runtime",             byteOffset := 17 }])       w := by intros; kernel_rfl
@[simp] theorem Tq.call102 : ∀ (args : Array Value) (w : World), Sem.run Tq.prog (callFunc 102 args) w = Result.ok (Next.enter 102 args) w := by intros; kernel_rfl
@[simp] theorem Tq.func61 : Tq.prog.funcs[61]? = some Try.f61 := by kernel_rfl
@[simp] theorem Tq.call2 : ∀ (args : Array Value) (w : World), Sem.run Tq.prog (callFunc 2 args) w = Result.ok (Next.enter 2 args) w := by intros; kernel_rfl
@[simp] theorem Tq.type50 : Tq.prog.types[50]? = some Try.t50 := by kernel_rfl
@[simp] theorem Tq.type4 : Tq.prog.types[4]? = some Try.t4 := by kernel_rfl
@[simp] theorem Tq.call85 : ∀ (args : Array Value) (w : World), Sem.run Tq.prog (callFunc 85 args) w = Result.ok (Next.enter 85 args) w := by intros; kernel_rfl
@[simp] theorem Tq.func130 : Tq.prog.funcs[130]? = some Try.f130 := by kernel_rfl
@[simp] theorem Tq.call44 : ∀ (args : Array Value) (w : World), Sem.run Tq.prog (callFunc 44 args) w = Result.ok (Next.enter 44 args) w := by intros; kernel_rfl
@[simp] theorem Tq.sizeOf52 : ∀ (w : World), Sem.run Tq.prog (Go.sizeOf 52) w = Result.ok 5 w := by intros; kernel_rfl
@[simp] theorem Tq.stoodInHeld81 : Tq.prog.stoodInHeld 81 = false := by kernel_rfl
@[simp] theorem Tq.typeInfo11 : ∀ (w : World), Sem.run Tq.prog (typeInfo 11) w = Result.ok Try.t11 w := by intros; kernel_rfl
@[simp] theorem Tq.func68 : Tq.prog.funcs[68]? = some Tq.f68 := by kernel_rfl
@[simp] theorem Tq.stoodInHeld77 : Tq.prog.stoodInHeld 77 = false := by kernel_rfl
@[simp] theorem Tq.func53 : Tq.prog.funcs[53]? = some Try.f53 := by kernel_rfl
@[simp] theorem Tq.call67 : ∀ (args : Array Value) (w : World), Sem.run Tq.prog (callFunc 67 args) w = Result.ok (Next.enter 67 args) w := by intros; kernel_rfl
@[simp] theorem Tq.runUnderlying35 : ∀ (w : World), Sem.run Tq.prog (underlying 35) w = Result.ok (TypeDesc.slice 5) w := by intros; kernel_rfl
@[simp] theorem Tq.stoodInHeld104 : Tq.prog.stoodInHeld 104 = false := by kernel_rfl
@[simp] theorem Tq.typeInfo7 : ∀ (w : World), Sem.run Tq.prog (typeInfo 7) w = Result.ok Try.t7 w := by intros; kernel_rfl
@[simp] theorem Tq.func25 : Tq.prog.funcs[25]? = some Try.f25 := by kernel_rfl
@[simp] theorem Tq.func48 : Tq.prog.funcs[48]? = some Try.f48 := by kernel_rfl
@[simp] theorem Tq.func82 : Tq.prog.funcs[82]? = some Try.f82 := by kernel_rfl
@[simp] theorem Tq.func56 : Tq.prog.funcs[56]? = some Try.f56 := by kernel_rfl
@[simp] theorem Tq.zeroValue52 : ∀ (w : World),   Sem.run Tq.prog (zeroValue 52) w =     Result.ok       (Value.agg         #[Value.int IntKind.i64 0, Value.int IntKind.i64 0, Value.int IntKind.i64 0, Value.int IntKind.i64 0,           Value.int IntKind.i64 0])       w := by intros; kernel_rfl
@[simp] theorem Tq.typeInfo5 : ∀ (w : World), Sem.run Tq.prog (typeInfo 5) w = Result.ok Try.t5 w := by intros; kernel_rfl
@[simp] theorem Tq.stoodInHeld94 : Tq.prog.stoodInHeld 94 = false := by kernel_rfl
@[simp] theorem Tq.call126 : ∀ (args : Array Value) (w : World), Sem.run Tq.prog (callFunc 126 args) w = Result.ok (Next.enter 126 args) w := by intros; kernel_rfl
@[simp] theorem Tq.type5 : Tq.prog.types[5]? = some Try.t5 := by kernel_rfl
@[simp] theorem Tq.type1 : Tq.prog.types[1]? = some Try.t1 := by kernel_rfl
@[simp] theorem Tq.call50 : ∀ (args : Array Value) (w : World), Sem.run Tq.prog (callFunc 50 args) w = Result.ok (Next.enter 50 args) w := by intros; kernel_rfl
@[simp] theorem Tq.isAgg7 : ∀ (w : World), Sem.run Tq.prog (isAgg 7) w = Result.ok true w := by intros; kernel_rfl
@[simp] theorem Tq.call89 : ∀ (args : Array Value) (w : World), Sem.run Tq.prog (callFunc 89 args) w = Result.ok (Next.enter 89 args) w := by intros; kernel_rfl
@[simp] theorem Tq.isAgg113 : ∀ (w : World), Sem.run Tq.prog (isAgg 113) w = Result.ok false w := by intros; kernel_rfl
@[simp] theorem Tq.func59 : Tq.prog.funcs[59]? = some Try.f59 := by kernel_rfl
@[simp] theorem Tq.runUnderlying12 : ∀ (w : World), Sem.run Tq.prog (underlying 12) w = Result.ok (TypeDesc.int IntKind.u64) w := by intros; kernel_rfl
@[simp] theorem Tq.func147 : Tq.prog.funcs[147]? = some Try.f147 := by kernel_rfl
@[simp] theorem Tq.func88 : Tq.prog.funcs[88]? = some Try.f88 := by kernel_rfl
@[simp] theorem Tq.func110 : Tq.prog.funcs[110]? = some Try.f110 := by kernel_rfl
@[simp] theorem Tq.stoodInHeld82 : Tq.prog.stoodInHeld 82 = false := by kernel_rfl
@[simp] theorem Tq.call99 : ∀ (args : Array Value) (w : World), Sem.run Tq.prog (callFunc 99 args) w = Result.ok (Next.enter 99 args) w := by intros; kernel_rfl
@[simp] theorem Tq.call25 : ∀ (args : Array Value) (w : World), Sem.run Tq.prog (callFunc 25 args) w = Result.ok (Next.enter 25 args) w := by intros; kernel_rfl
@[simp] theorem Tq.stoodInHeld22 : Tq.prog.stoodInHeld 22 = false := by kernel_rfl
@[simp] theorem Tq.func55 : Tq.prog.funcs[55]? = some Try.f55 := by kernel_rfl
@[simp] theorem Tq.func44 : Tq.prog.funcs[44]? = some Try.f44 := by kernel_rfl
@[simp] theorem Tq.func78 : Tq.prog.funcs[78]? = some Try.f78 := by kernel_rfl
@[simp] theorem Tq.isAgg5 : ∀ (w : World), Sem.run Tq.prog (isAgg 5) w = Result.ok false w := by intros; kernel_rfl
@[simp] theorem Tq.call53 : ∀ (args : Array Value) (w : World), Sem.run Tq.prog (callFunc 53 args) w = Result.ok (Next.enter 53 args) w := by intros; kernel_rfl
@[simp] theorem Tq.call45 : ∀ (args : Array Value) (w : World), Sem.run Tq.prog (callFunc 45 args) w = Result.ok (Next.enter 45 args) w := by intros; kernel_rfl
@[simp] theorem Tq.func126 : Tq.prog.funcs[126]? = some Try.f126 := by kernel_rfl
@[simp] theorem Tq.stoodInHeld49 : Tq.prog.stoodInHeld 49 = false := by kernel_rfl
@[simp] theorem Tq.isAgg10 : ∀ (w : World), Sem.run Tq.prog (isAgg 10) w = Result.ok false w := by intros; kernel_rfl
@[simp] theorem Tq.func32 : Tq.prog.funcs[32]? = some Try.f32 := by kernel_rfl
@[simp] theorem Tq.sizeOf1 : ∀ (w : World), Sem.run Tq.prog (Go.sizeOf 1) w = Result.ok 1 w := by intros; kernel_rfl
@[simp] theorem Tq.typeInfo8 : ∀ (w : World), Sem.run Tq.prog (typeInfo 8) w = Result.ok Try.t8 w := by intros; kernel_rfl
@[simp] theorem Tq.call36 : ∀ (args : Array Value) (w : World), Sem.run Tq.prog (callFunc 36 args) w = Result.ok (Next.enter 36 args) w := by intros; kernel_rfl
@[simp] theorem Tq.func127 : Tq.prog.funcs[127]? = some Try.f127 := by kernel_rfl
@[simp] theorem Tq.call24 : ∀ (args : Array Value) (w : World), Sem.run Tq.prog (callFunc 24 args) w = Result.ok (Next.enter 24 args) w := by intros; kernel_rfl
@[simp] theorem Tq.func123 : Tq.prog.funcs[123]? = some Try.f123 := by kernel_rfl
@[simp] theorem Tq.stoodInHeld93 : Tq.prog.stoodInHeld 93 = false := by kernel_rfl
@[simp] theorem Tq.stoodInHeld18 : Tq.prog.stoodInHeld 18 = true := by kernel_rfl
@[simp] theorem Tq.sizeOf91 : ∀ (w : World), Sem.run Tq.prog (Go.sizeOf 91) w = Result.ok 6 w := by intros; kernel_rfl
@[simp] theorem Tq.func79 : Tq.prog.funcs[79]? = some Try.f79 := by kernel_rfl
@[simp] theorem Tq.func15 : Tq.prog.funcs[15]? = some Try.f15 := by kernel_rfl
@[simp] theorem Tq.eqGuardType91 : Tq.prog.eqGuardType Tq.prog.depth 91 = false := by kernel_rfl
@[simp] theorem Tq.stoodInHeld8 : Tq.prog.stoodInHeld 8 = false := by kernel_rfl
@[simp] theorem Tq.isAgg23 : ∀ (w : World), Sem.run Tq.prog (isAgg 23) w = Result.ok true w := by intros; kernel_rfl
@[simp] theorem Tq.runUnderlying113 : ∀ (w : World), Sem.run Tq.prog (underlying 113) w = Result.ok (TypeDesc.slice 9) w := by intros; kernel_rfl
@[simp] theorem Tq.underlying91 : Tq.prog.underlying 91 = some (TypeDesc.array 6 5) := by kernel_rfl
@[simp] theorem Tq.sizeOf113 : ∀ (w : World), Sem.run Tq.prog (Go.sizeOf 113) w = Result.ok 1 w := by intros; kernel_rfl
@[simp] theorem Tq.type9 : Tq.prog.types[9]? = some Try.t9 := by kernel_rfl
@[simp] theorem Tq.func140 : Tq.prog.funcs[140]? = some Try.f140 := by kernel_rfl
@[simp] theorem Tq.runUnderlying8 : ∀ (w : World),   Sem.run Tq.prog (underlying 8) w =     Result.ok       (TypeDesc.struct         #[{ name := "x", type := 2, offset := 0, embedded := false, tag := "", pkgPath := "runtime", byteOffset := 0 },           { name := "y", type := 3, offset := 1, embedded := false, tag := "", pkgPath := "runtime", byteOffset := 8 },           { name := "signed", type := 4, offset := 2, embedded := false, tag := "", pkgPath := "runtime",             byteOffset := 16 },           { name := "code", type := 6, offset := 3, embedded := false, tag := "", pkgPath := "runtime",             byteOffset := 17 }])       w := by intros; kernel_rfl
@[simp] theorem Tq.runUnderlying10 : ∀ (w : World), Sem.run Tq.prog (underlying 10) w = Result.ok TypeDesc.string w := by intros; kernel_rfl
@[simp] theorem Tq.call74 : ∀ (args : Array Value) (w : World), Sem.run Tq.prog (callFunc 74 args) w = Result.ok (Next.enter 74 args) w := by intros; kernel_rfl
@[simp] theorem Tq.call37 : ∀ (args : Array Value) (w : World), Sem.run Tq.prog (callFunc 37 args) w = Result.ok (Next.enter 37 args) w := by intros; kernel_rfl
@[simp] theorem Tq.call34 : ∀ (args : Array Value) (w : World), Sem.run Tq.prog (callFunc 34 args) w = Result.ok (Next.enter 34 args) w := by intros; kernel_rfl
@[simp] theorem Tq.zeroValue4 : ∀ (w : World), Sem.run Tq.prog (zeroValue 4) w = Result.ok (Value.bool false) w := by intros; kernel_rfl
@[simp] theorem Tq.zeroValue7 : ∀ (w : World),   Sem.run Tq.prog (zeroValue 7) w =     Result.ok (Value.agg #[Value.int IntKind.i64 0, Value.int IntKind.i64 0, Value.bool false, Value.int IntKind.u8 0])       w := by intros; kernel_rfl
@[simp] theorem Tq.func45 : Tq.prog.funcs[45]? = some Try.f45 := by kernel_rfl
@[simp] theorem Tq.runUnderlying23 : ∀ (w : World),   Sem.run Tq.prog (underlying 23) w =     Result.ok       (TypeDesc.struct         #[{ name := "Dst", type := 3, offset := 0, embedded := false, tag := "", pkgPath := "", byteOffset := 0 },           { name := "Src", type := 3, offset := 1, embedded := false, tag := "", pkgPath := "", byteOffset := 8 },           { name := "Type", type := 3, offset := 2, embedded := false, tag := "", pkgPath := "", byteOffset := 16 },           { name := "Data", type := 9, offset := 3, embedded := false, tag := "", pkgPath := "", byteOffset := 24 }])       w := by intros; kernel_rfl
@[simp] theorem Tq.runUnderlying2 : ∀ (w : World), Sem.run Tq.prog (underlying 2) w = Result.ok (TypeDesc.int IntKind.i64) w := by intros; kernel_rfl
@[simp] theorem Tq.call64 : ∀ (args : Array Value) (w : World), Sem.run Tq.prog (callFunc 64 args) w = Result.ok (Next.enter 64 args) w := by intros; kernel_rfl
@[simp] theorem Tq.call98 : ∀ (args : Array Value) (w : World), Sem.run Tq.prog (callFunc 98 args) w = Result.ok (Next.enter 98 args) w := by intros; kernel_rfl
@[simp] theorem Tq.func6 : Tq.prog.funcs[6]? = some Try.f6 := by kernel_rfl
@[simp] theorem Tq.func149 : Tq.prog.funcs[149]? = some Try.f149 := by kernel_rfl
@[simp] theorem Tq.func64 : Tq.prog.funcs[64]? = some Try.f64 := by kernel_rfl
@[simp] theorem Tq.isAgg52 : ∀ (w : World), Sem.run Tq.prog (isAgg 52) w = Result.ok true w := by intros; kernel_rfl
@[simp] theorem Tq.func51 : Tq.prog.funcs[51]? = some Try.f51 := by kernel_rfl
@[simp] theorem Tq.func33 : Tq.prog.funcs[33]? = some Try.f33 := by kernel_rfl
@[simp] theorem Tq.call4 : ∀ (args : Array Value) (w : World), Sem.run Tq.prog (callFunc 4 args) w = Result.ok (Next.enter 4 args) w := by intros; kernel_rfl
@[simp] theorem Tq.func128 : Tq.prog.funcs[128]? = some Try.f128 := by kernel_rfl
@[simp] theorem Tq.type10 : Tq.prog.types[10]? = some Try.t10 := by kernel_rfl
@[simp] theorem Tq.func116 : Tq.prog.funcs[116]? = some Try.f116 := by kernel_rfl
@[simp] theorem Tq.func94 : Tq.prog.funcs[94]? = some Try.f94 := by kernel_rfl
@[simp] theorem Tq.call78 : ∀ (args : Array Value) (w : World), Sem.run Tq.prog (callFunc 78 args) w = Result.ok (Next.enter 78 args) w := by intros; kernel_rfl
@[simp] theorem Tq.call105 : ∀ (args : Array Value) (w : World), Sem.run Tq.prog (callFunc 105 args) w = Result.ok (Next.enter 105 args) w := by intros; kernel_rfl
@[simp] theorem Tq.isAgg12 : ∀ (w : World), Sem.run Tq.prog (isAgg 12) w = Result.ok false w := by intros; kernel_rfl
@[simp] theorem Tq.stoodInHeld51 : Tq.prog.stoodInHeld 51 = false := by kernel_rfl
@[simp] theorem Tq.func36 : Tq.prog.funcs[36]? = some Try.f36 := by kernel_rfl
@[simp] theorem Tq.call26 : ∀ (args : Array Value) (w : World), Sem.run Tq.prog (callFunc 26 args) w = Result.ok (Next.enter 26 args) w := by intros; kernel_rfl
@[simp] theorem Tq.func146 : Tq.prog.funcs[146]? = some Try.f146 := by kernel_rfl
@[simp] theorem Tq.isAgg35 : ∀ (w : World), Sem.run Tq.prog (isAgg 35) w = Result.ok false w := by intros; kernel_rfl
@[simp] theorem Tq.sizeOf0 : ∀ (w : World), Sem.run Tq.prog (Go.sizeOf 0) w = Result.ok 1 w := by intros; kernel_rfl
@[simp] theorem Tq.call54 : ∀ (args : Array Value) (w : World), Sem.run Tq.prog (callFunc 54 args) w = Result.ok (Next.enter 54 args) w := by intros; kernel_rfl
@[simp] theorem Tq.func57 : Tq.prog.funcs[57]? = some Try.f57 := by kernel_rfl
@[simp] theorem Tq.func49 : Tq.prog.funcs[49]? = some Try.f49 := by kernel_rfl
@[simp] theorem Tq.zeroValue8 : ∀ (w : World),   Sem.run Tq.prog (zeroValue 8) w =     Result.ok (Value.agg #[Value.int IntKind.i64 0, Value.int IntKind.i64 0, Value.bool false, Value.int IntKind.u8 0])       w := by intros; kernel_rfl
@[simp] theorem Tq.typeInfo35 : ∀ (w : World), Sem.run Tq.prog (typeInfo 35) w = Result.ok Try.t35 w := by intros; kernel_rfl
@[simp] theorem Tq.globals_size : Tq.prog.globals.size = 0 := by kernel_rfl
@[simp] theorem Tq.call73 : ∀ (args : Array Value) (w : World), Sem.run Tq.prog (callFunc 73 args) w = Result.ok (Next.enter 73 args) w := by intros; kernel_rfl
theorem Tq.ntmps2 : type_of% Try.ntmps2 := Try.ntmps2
theorem Tq.results2 : type_of% Try.results2 := Try.results2
theorem Tq.params2 : type_of% Try.params2 := Try.params2
theorem Tq.nfree2 : type_of% Try.nfree2 := Try.nfree2
theorem Tq.ntmps3 : type_of% Try.ntmps3 := Try.ntmps3
theorem Tq.results3 : type_of% Try.results3 := Try.results3
theorem Tq.params3 : type_of% Try.params3 := Try.params3
theorem Tq.nfree3 : type_of% Try.nfree3 := Try.nfree3
theorem Tq.ntmps4 : type_of% Try.ntmps4 := Try.ntmps4
theorem Tq.results4 : type_of% Try.results4 := Try.results4
theorem Tq.params4 : type_of% Try.params4 := Try.params4
theorem Tq.nfree4 : type_of% Try.nfree4 := Try.nfree4
theorem Tq.ntmps5 : type_of% Try.ntmps5 := Try.ntmps5
theorem Tq.results5 : type_of% Try.results5 := Try.results5
theorem Tq.params5 : type_of% Try.params5 := Try.params5
theorem Tq.nfree5 : type_of% Try.nfree5 := Try.nfree5
theorem Tq.ntmps6 : type_of% Try.ntmps6 := Try.ntmps6
theorem Tq.results6 : type_of% Try.results6 := Try.results6
theorem Tq.params6 : type_of% Try.params6 := Try.params6
theorem Tq.nfree6 : type_of% Try.nfree6 := Try.nfree6
theorem Tq.ntmps7 : type_of% Try.ntmps7 := Try.ntmps7
theorem Tq.results7 : type_of% Try.results7 := Try.results7
theorem Tq.params7 : type_of% Try.params7 := Try.params7
theorem Tq.nfree7 : type_of% Try.nfree7 := Try.nfree7
theorem Tq.ntmps8 : type_of% Try.ntmps8 := Try.ntmps8
theorem Tq.results8 : type_of% Try.results8 := Try.results8
theorem Tq.params8 : type_of% Try.params8 := Try.params8
theorem Tq.nfree8 : type_of% Try.nfree8 := Try.nfree8
theorem Tq.ntmps9 : type_of% Try.ntmps9 := Try.ntmps9
theorem Tq.results9 : type_of% Try.results9 := Try.results9
theorem Tq.params9 : type_of% Try.params9 := Try.params9
theorem Tq.nfree9 : type_of% Try.nfree9 := Try.nfree9
theorem Tq.ntmps10 : type_of% Try.ntmps10 := Try.ntmps10
theorem Tq.results10 : type_of% Try.results10 := Try.results10
theorem Tq.params10 : type_of% Try.params10 := Try.params10
theorem Tq.nfree10 : type_of% Try.nfree10 := Try.nfree10
theorem Tq.ntmps11 : type_of% Try.ntmps11 := Try.ntmps11
theorem Tq.results11 : type_of% Try.results11 := Try.results11
theorem Tq.params11 : type_of% Try.params11 := Try.params11
theorem Tq.nfree11 : type_of% Try.nfree11 := Try.nfree11
theorem Tq.ntmps12 : type_of% Try.ntmps12 := Try.ntmps12
theorem Tq.results12 : type_of% Try.results12 := Try.results12
theorem Tq.params12 : type_of% Try.params12 := Try.params12
theorem Tq.nfree12 : type_of% Try.nfree12 := Try.nfree12
theorem Tq.ntmps13 : type_of% Try.ntmps13 := Try.ntmps13
theorem Tq.results13 : type_of% Try.results13 := Try.results13
theorem Tq.params13 : type_of% Try.params13 := Try.params13
theorem Tq.nfree13 : type_of% Try.nfree13 := Try.nfree13
theorem Tq.ntmps14 : type_of% Try.ntmps14 := Try.ntmps14
theorem Tq.results14 : type_of% Try.results14 := Try.results14
theorem Tq.params14 : type_of% Try.params14 := Try.params14
theorem Tq.nfree14 : type_of% Try.nfree14 := Try.nfree14
theorem Tq.ntmps15 : type_of% Try.ntmps15 := Try.ntmps15
theorem Tq.results15 : type_of% Try.results15 := Try.results15
theorem Tq.params15 : type_of% Try.params15 := Try.params15
theorem Tq.nfree15 : type_of% Try.nfree15 := Try.nfree15
theorem Tq.ntmps16 : type_of% Try.ntmps16 := Try.ntmps16
theorem Tq.results16 : type_of% Try.results16 := Try.results16
theorem Tq.params16 : type_of% Try.params16 := Try.params16
theorem Tq.nfree16 : type_of% Try.nfree16 := Try.nfree16
theorem Tq.ntmps17 : type_of% Try.ntmps17 := Try.ntmps17
theorem Tq.results17 : type_of% Try.results17 := Try.results17
theorem Tq.params17 : type_of% Try.params17 := Try.params17
theorem Tq.nfree17 : type_of% Try.nfree17 := Try.nfree17
theorem Tq.ntmps18 : type_of% Try.ntmps18 := Try.ntmps18
theorem Tq.results18 : type_of% Try.results18 := Try.results18
theorem Tq.params18 : type_of% Try.params18 := Try.params18
theorem Tq.nfree18 : type_of% Try.nfree18 := Try.nfree18
theorem Tq.ntmps19 : type_of% Try.ntmps19 := Try.ntmps19
theorem Tq.results19 : type_of% Try.results19 := Try.results19
theorem Tq.params19 : type_of% Try.params19 := Try.params19
theorem Tq.nfree19 : type_of% Try.nfree19 := Try.nfree19
theorem Tq.ntmps20 : type_of% Try.ntmps20 := Try.ntmps20
theorem Tq.results20 : type_of% Try.results20 := Try.results20
theorem Tq.params20 : type_of% Try.params20 := Try.params20
theorem Tq.nfree20 : type_of% Try.nfree20 := Try.nfree20
theorem Tq.ntmps21 : type_of% Try.ntmps21 := Try.ntmps21
theorem Tq.results21 : type_of% Try.results21 := Try.results21
theorem Tq.params21 : type_of% Try.params21 := Try.params21
theorem Tq.nfree21 : type_of% Try.nfree21 := Try.nfree21
theorem Tq.ntmps22 : type_of% Try.ntmps22 := Try.ntmps22
theorem Tq.results22 : type_of% Try.results22 := Try.results22
theorem Tq.params22 : type_of% Try.params22 := Try.params22
theorem Tq.nfree22 : type_of% Try.nfree22 := Try.nfree22
theorem Tq.ntmps23 : type_of% Try.ntmps23 := Try.ntmps23
theorem Tq.results23 : type_of% Try.results23 := Try.results23
theorem Tq.params23 : type_of% Try.params23 := Try.params23
theorem Tq.nfree23 : type_of% Try.nfree23 := Try.nfree23
theorem Tq.ntmps24 : type_of% Try.ntmps24 := Try.ntmps24
theorem Tq.results24 : type_of% Try.results24 := Try.results24
theorem Tq.params24 : type_of% Try.params24 := Try.params24
theorem Tq.nfree24 : type_of% Try.nfree24 := Try.nfree24
theorem Tq.ntmps25 : type_of% Try.ntmps25 := Try.ntmps25
theorem Tq.results25 : type_of% Try.results25 := Try.results25
theorem Tq.params25 : type_of% Try.params25 := Try.params25
theorem Tq.nfree25 : type_of% Try.nfree25 := Try.nfree25
theorem Tq.ntmps26 : type_of% Try.ntmps26 := Try.ntmps26
theorem Tq.results26 : type_of% Try.results26 := Try.results26
theorem Tq.params26 : type_of% Try.params26 := Try.params26
theorem Tq.nfree26 : type_of% Try.nfree26 := Try.nfree26
theorem Tq.ntmps27 : type_of% Try.ntmps27 := Try.ntmps27
theorem Tq.results27 : type_of% Try.results27 := Try.results27
theorem Tq.params27 : type_of% Try.params27 := Try.params27
theorem Tq.nfree27 : type_of% Try.nfree27 := Try.nfree27
theorem Tq.ntmps28 : type_of% Try.ntmps28 := Try.ntmps28
theorem Tq.results28 : type_of% Try.results28 := Try.results28
theorem Tq.params28 : type_of% Try.params28 := Try.params28
theorem Tq.nfree28 : type_of% Try.nfree28 := Try.nfree28
theorem Tq.ntmps29 : type_of% Try.ntmps29 := Try.ntmps29
theorem Tq.results29 : type_of% Try.results29 := Try.results29
theorem Tq.params29 : type_of% Try.params29 := Try.params29
theorem Tq.nfree29 : type_of% Try.nfree29 := Try.nfree29
theorem Tq.ntmps30 : type_of% Try.ntmps30 := Try.ntmps30
theorem Tq.results30 : type_of% Try.results30 := Try.results30
theorem Tq.params30 : type_of% Try.params30 := Try.params30
theorem Tq.nfree30 : type_of% Try.nfree30 := Try.nfree30
theorem Tq.ntmps31 : type_of% Try.ntmps31 := Try.ntmps31
theorem Tq.results31 : type_of% Try.results31 := Try.results31
theorem Tq.params31 : type_of% Try.params31 := Try.params31
theorem Tq.nfree31 : type_of% Try.nfree31 := Try.nfree31
theorem Tq.ntmps32 : type_of% Try.ntmps32 := Try.ntmps32
theorem Tq.results32 : type_of% Try.results32 := Try.results32
theorem Tq.params32 : type_of% Try.params32 := Try.params32
theorem Tq.nfree32 : type_of% Try.nfree32 := Try.nfree32
theorem Tq.ntmps33 : type_of% Try.ntmps33 := Try.ntmps33
theorem Tq.results33 : type_of% Try.results33 := Try.results33
theorem Tq.params33 : type_of% Try.params33 := Try.params33
theorem Tq.nfree33 : type_of% Try.nfree33 := Try.nfree33
theorem Tq.ntmps34 : type_of% Try.ntmps34 := Try.ntmps34
theorem Tq.results34 : type_of% Try.results34 := Try.results34
theorem Tq.params34 : type_of% Try.params34 := Try.params34
theorem Tq.nfree34 : type_of% Try.nfree34 := Try.nfree34
theorem Tq.ntmps35 : type_of% Try.ntmps35 := Try.ntmps35
theorem Tq.results35 : type_of% Try.results35 := Try.results35
theorem Tq.params35 : type_of% Try.params35 := Try.params35
theorem Tq.nfree35 : type_of% Try.nfree35 := Try.nfree35
theorem Tq.ntmps36 : type_of% Try.ntmps36 := Try.ntmps36
theorem Tq.results36 : type_of% Try.results36 := Try.results36
theorem Tq.params36 : type_of% Try.params36 := Try.params36
theorem Tq.nfree36 : type_of% Try.nfree36 := Try.nfree36
theorem Tq.ntmps37 : type_of% Try.ntmps37 := Try.ntmps37
theorem Tq.results37 : type_of% Try.results37 := Try.results37
theorem Tq.params37 : type_of% Try.params37 := Try.params37
theorem Tq.nfree37 : type_of% Try.nfree37 := Try.nfree37
theorem Tq.ntmps38 : type_of% Try.ntmps38 := Try.ntmps38
theorem Tq.results38 : type_of% Try.results38 := Try.results38
theorem Tq.params38 : type_of% Try.params38 := Try.params38
theorem Tq.nfree38 : type_of% Try.nfree38 := Try.nfree38
theorem Tq.ntmps39 : type_of% Try.ntmps39 := Try.ntmps39
theorem Tq.results39 : type_of% Try.results39 := Try.results39
theorem Tq.params39 : type_of% Try.params39 := Try.params39
theorem Tq.nfree39 : type_of% Try.nfree39 := Try.nfree39
theorem Tq.ntmps40 : type_of% Try.ntmps40 := Try.ntmps40
theorem Tq.results40 : type_of% Try.results40 := Try.results40
theorem Tq.params40 : type_of% Try.params40 := Try.params40
theorem Tq.nfree40 : type_of% Try.nfree40 := Try.nfree40
theorem Tq.ntmps41 : type_of% Try.ntmps41 := Try.ntmps41
theorem Tq.results41 : type_of% Try.results41 := Try.results41
theorem Tq.params41 : type_of% Try.params41 := Try.params41
theorem Tq.nfree41 : type_of% Try.nfree41 := Try.nfree41
theorem Tq.ntmps42 : type_of% Try.ntmps42 := Try.ntmps42
theorem Tq.results42 : type_of% Try.results42 := Try.results42
theorem Tq.params42 : type_of% Try.params42 := Try.params42
theorem Tq.nfree42 : type_of% Try.nfree42 := Try.nfree42
theorem Tq.ntmps43 : type_of% Try.ntmps43 := Try.ntmps43
theorem Tq.results43 : type_of% Try.results43 := Try.results43
theorem Tq.params43 : type_of% Try.params43 := Try.params43
theorem Tq.nfree43 : type_of% Try.nfree43 := Try.nfree43
theorem Tq.ntmps44 : type_of% Try.ntmps44 := Try.ntmps44
theorem Tq.results44 : type_of% Try.results44 := Try.results44
theorem Tq.params44 : type_of% Try.params44 := Try.params44
theorem Tq.nfree44 : type_of% Try.nfree44 := Try.nfree44
theorem Tq.ntmps45 : type_of% Try.ntmps45 := Try.ntmps45
theorem Tq.results45 : type_of% Try.results45 := Try.results45
theorem Tq.params45 : type_of% Try.params45 := Try.params45
theorem Tq.nfree45 : type_of% Try.nfree45 := Try.nfree45
theorem Tq.ntmps46 : type_of% Try.ntmps46 := Try.ntmps46
theorem Tq.results46 : type_of% Try.results46 := Try.results46
theorem Tq.params46 : type_of% Try.params46 := Try.params46
theorem Tq.nfree46 : type_of% Try.nfree46 := Try.nfree46
theorem Tq.ntmps47 : type_of% Try.ntmps47 := Try.ntmps47
theorem Tq.results47 : type_of% Try.results47 := Try.results47
theorem Tq.params47 : type_of% Try.params47 := Try.params47
theorem Tq.nfree47 : type_of% Try.nfree47 := Try.nfree47
theorem Tq.ntmps48 : type_of% Try.ntmps48 := Try.ntmps48
theorem Tq.results48 : type_of% Try.results48 := Try.results48
theorem Tq.params48 : type_of% Try.params48 := Try.params48
theorem Tq.nfree48 : type_of% Try.nfree48 := Try.nfree48
theorem Tq.ntmps49 : type_of% Try.ntmps49 := Try.ntmps49
theorem Tq.results49 : type_of% Try.results49 := Try.results49
theorem Tq.params49 : type_of% Try.params49 := Try.params49
theorem Tq.nfree49 : type_of% Try.nfree49 := Try.nfree49
theorem Tq.ntmps50 : type_of% Try.ntmps50 := Try.ntmps50
theorem Tq.results50 : type_of% Try.results50 := Try.results50
theorem Tq.params50 : type_of% Try.params50 := Try.params50
theorem Tq.nfree50 : type_of% Try.nfree50 := Try.nfree50
theorem Tq.ntmps51 : type_of% Try.ntmps51 := Try.ntmps51
theorem Tq.results51 : type_of% Try.results51 := Try.results51
theorem Tq.params51 : type_of% Try.params51 := Try.params51
theorem Tq.nfree51 : type_of% Try.nfree51 := Try.nfree51
theorem Tq.ntmps52 : type_of% Try.ntmps52 := Try.ntmps52
theorem Tq.results52 : type_of% Try.results52 := Try.results52
theorem Tq.params52 : type_of% Try.params52 := Try.params52
theorem Tq.nfree52 : type_of% Try.nfree52 := Try.nfree52
theorem Tq.ntmps53 : type_of% Try.ntmps53 := Try.ntmps53
theorem Tq.results53 : type_of% Try.results53 := Try.results53
theorem Tq.params53 : type_of% Try.params53 := Try.params53
theorem Tq.nfree53 : type_of% Try.nfree53 := Try.nfree53
theorem Tq.ntmps54 : type_of% Try.ntmps54 := Try.ntmps54
theorem Tq.results54 : type_of% Try.results54 := Try.results54
theorem Tq.params54 : type_of% Try.params54 := Try.params54
theorem Tq.nfree54 : type_of% Try.nfree54 := Try.nfree54
theorem Tq.ntmps55 : type_of% Try.ntmps55 := Try.ntmps55
theorem Tq.results55 : type_of% Try.results55 := Try.results55
theorem Tq.params55 : type_of% Try.params55 := Try.params55
theorem Tq.nfree55 : type_of% Try.nfree55 := Try.nfree55
theorem Tq.ntmps56 : type_of% Try.ntmps56 := Try.ntmps56
theorem Tq.results56 : type_of% Try.results56 := Try.results56
theorem Tq.params56 : type_of% Try.params56 := Try.params56
theorem Tq.nfree56 : type_of% Try.nfree56 := Try.nfree56
theorem Tq.ntmps57 : type_of% Try.ntmps57 := Try.ntmps57
theorem Tq.results57 : type_of% Try.results57 := Try.results57
theorem Tq.params57 : type_of% Try.params57 := Try.params57
theorem Tq.nfree57 : type_of% Try.nfree57 := Try.nfree57
theorem Tq.ntmps58 : type_of% Try.ntmps58 := Try.ntmps58
theorem Tq.results58 : type_of% Try.results58 := Try.results58
theorem Tq.params58 : type_of% Try.params58 := Try.params58
theorem Tq.nfree58 : type_of% Try.nfree58 := Try.nfree58
theorem Tq.ntmps59 : type_of% Try.ntmps59 := Try.ntmps59
theorem Tq.results59 : type_of% Try.results59 := Try.results59
theorem Tq.params59 : type_of% Try.params59 := Try.params59
theorem Tq.nfree59 : type_of% Try.nfree59 := Try.nfree59
theorem Tq.ntmps60 : type_of% Try.ntmps60 := Try.ntmps60
theorem Tq.results60 : type_of% Try.results60 := Try.results60
theorem Tq.params60 : type_of% Try.params60 := Try.params60
theorem Tq.nfree60 : type_of% Try.nfree60 := Try.nfree60
theorem Tq.ntmps61 : type_of% Try.ntmps61 := Try.ntmps61
theorem Tq.results61 : type_of% Try.results61 := Try.results61
theorem Tq.params61 : type_of% Try.params61 := Try.params61
theorem Tq.nfree61 : type_of% Try.nfree61 := Try.nfree61
theorem Tq.ntmps62 : type_of% Try.ntmps62 := Try.ntmps62
theorem Tq.results62 : type_of% Try.results62 := Try.results62
theorem Tq.params62 : type_of% Try.params62 := Try.params62
theorem Tq.nfree62 : type_of% Try.nfree62 := Try.nfree62
theorem Tq.ntmps63 : type_of% Try.ntmps63 := Try.ntmps63
theorem Tq.results63 : type_of% Try.results63 := Try.results63
theorem Tq.params63 : type_of% Try.params63 := Try.params63
theorem Tq.nfree63 : type_of% Try.nfree63 := Try.nfree63
theorem Tq.ntmps64 : type_of% Try.ntmps64 := Try.ntmps64
theorem Tq.results64 : type_of% Try.results64 := Try.results64
theorem Tq.params64 : type_of% Try.params64 := Try.params64
theorem Tq.nfree64 : type_of% Try.nfree64 := Try.nfree64
theorem Tq.ntmps65 : type_of% Try.ntmps65 := Try.ntmps65
theorem Tq.results65 : type_of% Try.results65 := Try.results65
theorem Tq.params65 : type_of% Try.params65 := Try.params65
theorem Tq.nfree65 : type_of% Try.nfree65 := Try.nfree65
theorem Tq.ntmps66 : type_of% Try.ntmps66 := Try.ntmps66
theorem Tq.results66 : type_of% Try.results66 := Try.results66
theorem Tq.params66 : type_of% Try.params66 := Try.params66
theorem Tq.nfree66 : type_of% Try.nfree66 := Try.nfree66
theorem Tq.ntmps67 : type_of% Try.ntmps67 := Try.ntmps67
theorem Tq.results67 : type_of% Try.results67 := Try.results67
theorem Tq.params67 : type_of% Try.params67 := Try.params67
theorem Tq.nfree67 : type_of% Try.nfree67 := Try.nfree67
theorem Tq.ntmps69 : type_of% Try.ntmps69 := Try.ntmps69
theorem Tq.results69 : type_of% Try.results69 := Try.results69
theorem Tq.params69 : type_of% Try.params69 := Try.params69
theorem Tq.nfree69 : type_of% Try.nfree69 := Try.nfree69
theorem Tq.ntmps70 : type_of% Try.ntmps70 := Try.ntmps70
theorem Tq.results70 : type_of% Try.results70 := Try.results70
theorem Tq.params70 : type_of% Try.params70 := Try.params70
theorem Tq.nfree70 : type_of% Try.nfree70 := Try.nfree70
theorem Tq.ntmps71 : type_of% Try.ntmps71 := Try.ntmps71
theorem Tq.results71 : type_of% Try.results71 := Try.results71
theorem Tq.params71 : type_of% Try.params71 := Try.params71
theorem Tq.nfree71 : type_of% Try.nfree71 := Try.nfree71
theorem Tq.ntmps72 : type_of% Try.ntmps72 := Try.ntmps72
theorem Tq.results72 : type_of% Try.results72 := Try.results72
theorem Tq.params72 : type_of% Try.params72 := Try.params72
theorem Tq.nfree72 : type_of% Try.nfree72 := Try.nfree72
theorem Tq.ntmps73 : type_of% Try.ntmps73 := Try.ntmps73
theorem Tq.results73 : type_of% Try.results73 := Try.results73
theorem Tq.params73 : type_of% Try.params73 := Try.params73
theorem Tq.nfree73 : type_of% Try.nfree73 := Try.nfree73
theorem Tq.ntmps74 : type_of% Try.ntmps74 := Try.ntmps74
theorem Tq.results74 : type_of% Try.results74 := Try.results74
theorem Tq.params74 : type_of% Try.params74 := Try.params74
theorem Tq.nfree74 : type_of% Try.nfree74 := Try.nfree74
theorem Tq.ntmps75 : type_of% Try.ntmps75 := Try.ntmps75
theorem Tq.results75 : type_of% Try.results75 := Try.results75
theorem Tq.params75 : type_of% Try.params75 := Try.params75
theorem Tq.nfree75 : type_of% Try.nfree75 := Try.nfree75
theorem Tq.ntmps76 : type_of% Try.ntmps76 := Try.ntmps76
theorem Tq.results76 : type_of% Try.results76 := Try.results76
theorem Tq.params76 : type_of% Try.params76 := Try.params76
theorem Tq.nfree76 : type_of% Try.nfree76 := Try.nfree76
theorem Tq.ntmps77 : type_of% Try.ntmps77 := Try.ntmps77
theorem Tq.results77 : type_of% Try.results77 := Try.results77
theorem Tq.params77 : type_of% Try.params77 := Try.params77
theorem Tq.nfree77 : type_of% Try.nfree77 := Try.nfree77
theorem Tq.ntmps78 : type_of% Try.ntmps78 := Try.ntmps78
theorem Tq.results78 : type_of% Try.results78 := Try.results78
theorem Tq.params78 : type_of% Try.params78 := Try.params78
theorem Tq.nfree78 : type_of% Try.nfree78 := Try.nfree78
theorem Tq.ntmps79 : type_of% Try.ntmps79 := Try.ntmps79
theorem Tq.results79 : type_of% Try.results79 := Try.results79
theorem Tq.params79 : type_of% Try.params79 := Try.params79
theorem Tq.nfree79 : type_of% Try.nfree79 := Try.nfree79
theorem Tq.ntmps80 : type_of% Try.ntmps80 := Try.ntmps80
theorem Tq.results80 : type_of% Try.results80 := Try.results80
theorem Tq.params80 : type_of% Try.params80 := Try.params80
theorem Tq.nfree80 : type_of% Try.nfree80 := Try.nfree80
theorem Tq.ntmps81 : type_of% Try.ntmps81 := Try.ntmps81
theorem Tq.results81 : type_of% Try.results81 := Try.results81
theorem Tq.params81 : type_of% Try.params81 := Try.params81
theorem Tq.nfree81 : type_of% Try.nfree81 := Try.nfree81
theorem Tq.ntmps82 : type_of% Try.ntmps82 := Try.ntmps82
theorem Tq.results82 : type_of% Try.results82 := Try.results82
theorem Tq.params82 : type_of% Try.params82 := Try.params82
theorem Tq.nfree82 : type_of% Try.nfree82 := Try.nfree82
theorem Tq.ntmps83 : type_of% Try.ntmps83 := Try.ntmps83
theorem Tq.results83 : type_of% Try.results83 := Try.results83
theorem Tq.params83 : type_of% Try.params83 := Try.params83
theorem Tq.nfree83 : type_of% Try.nfree83 := Try.nfree83
theorem Tq.ntmps84 : type_of% Try.ntmps84 := Try.ntmps84
theorem Tq.results84 : type_of% Try.results84 := Try.results84
theorem Tq.params84 : type_of% Try.params84 := Try.params84
theorem Tq.nfree84 : type_of% Try.nfree84 := Try.nfree84
theorem Tq.ntmps85 : type_of% Try.ntmps85 := Try.ntmps85
theorem Tq.results85 : type_of% Try.results85 := Try.results85
theorem Tq.params85 : type_of% Try.params85 := Try.params85
theorem Tq.nfree85 : type_of% Try.nfree85 := Try.nfree85
theorem Tq.ntmps86 : type_of% Try.ntmps86 := Try.ntmps86
theorem Tq.results86 : type_of% Try.results86 := Try.results86
theorem Tq.params86 : type_of% Try.params86 := Try.params86
theorem Tq.nfree86 : type_of% Try.nfree86 := Try.nfree86
theorem Tq.ntmps87 : type_of% Try.ntmps87 := Try.ntmps87
theorem Tq.results87 : type_of% Try.results87 := Try.results87
theorem Tq.params87 : type_of% Try.params87 := Try.params87
theorem Tq.nfree87 : type_of% Try.nfree87 := Try.nfree87
theorem Tq.ntmps88 : type_of% Try.ntmps88 := Try.ntmps88
theorem Tq.results88 : type_of% Try.results88 := Try.results88
theorem Tq.params88 : type_of% Try.params88 := Try.params88
theorem Tq.nfree88 : type_of% Try.nfree88 := Try.nfree88
theorem Tq.ntmps89 : type_of% Try.ntmps89 := Try.ntmps89
theorem Tq.results89 : type_of% Try.results89 := Try.results89
theorem Tq.params89 : type_of% Try.params89 := Try.params89
theorem Tq.nfree89 : type_of% Try.nfree89 := Try.nfree89
theorem Tq.ntmps90 : type_of% Try.ntmps90 := Try.ntmps90
theorem Tq.results90 : type_of% Try.results90 := Try.results90
theorem Tq.params90 : type_of% Try.params90 := Try.params90
theorem Tq.nfree90 : type_of% Try.nfree90 := Try.nfree90
theorem Tq.ntmps91 : type_of% Try.ntmps91 := Try.ntmps91
theorem Tq.results91 : type_of% Try.results91 := Try.results91
theorem Tq.params91 : type_of% Try.params91 := Try.params91
theorem Tq.nfree91 : type_of% Try.nfree91 := Try.nfree91
theorem Tq.ntmps98 : type_of% Try.ntmps98 := Try.ntmps98
theorem Tq.results98 : type_of% Try.results98 := Try.results98
theorem Tq.params98 : type_of% Try.params98 := Try.params98
theorem Tq.nfree98 : type_of% Try.nfree98 := Try.nfree98
theorem Tq.ntmps99 : type_of% Try.ntmps99 := Try.ntmps99
theorem Tq.results99 : type_of% Try.results99 := Try.results99
theorem Tq.params99 : type_of% Try.params99 := Try.params99
theorem Tq.nfree99 : type_of% Try.nfree99 := Try.nfree99
theorem Tq.ntmps101 : type_of% Try.ntmps101 := Try.ntmps101
theorem Tq.results101 : type_of% Try.results101 := Try.results101
theorem Tq.params101 : type_of% Try.params101 := Try.params101
theorem Tq.nfree101 : type_of% Try.nfree101 := Try.nfree101
theorem Tq.ntmps102 : type_of% Try.ntmps102 := Try.ntmps102
theorem Tq.results102 : type_of% Try.results102 := Try.results102
theorem Tq.params102 : type_of% Try.params102 := Try.params102
theorem Tq.nfree102 : type_of% Try.nfree102 := Try.nfree102
theorem Tq.ntmps105 : type_of% Try.ntmps105 := Try.ntmps105
theorem Tq.results105 : type_of% Try.results105 := Try.results105
theorem Tq.params105 : type_of% Try.params105 := Try.params105
theorem Tq.nfree105 : type_of% Try.nfree105 := Try.nfree105
theorem Tq.ntmps106 : type_of% Try.ntmps106 := Try.ntmps106
theorem Tq.results106 : type_of% Try.results106 := Try.results106
theorem Tq.params106 : type_of% Try.params106 := Try.params106
theorem Tq.nfree106 : type_of% Try.nfree106 := Try.nfree106
theorem Tq.ntmps109 : type_of% Try.ntmps109 := Try.ntmps109
theorem Tq.results109 : type_of% Try.results109 := Try.results109
theorem Tq.params109 : type_of% Try.params109 := Try.params109
theorem Tq.nfree109 : type_of% Try.nfree109 := Try.nfree109
theorem Tq.ntmps112 : type_of% Try.ntmps112 := Try.ntmps112
theorem Tq.results112 : type_of% Try.results112 := Try.results112
theorem Tq.params112 : type_of% Try.params112 := Try.params112
theorem Tq.nfree112 : type_of% Try.nfree112 := Try.nfree112
theorem Tq.ntmps113 : type_of% Try.ntmps113 := Try.ntmps113
theorem Tq.results113 : type_of% Try.results113 := Try.results113
theorem Tq.params113 : type_of% Try.params113 := Try.params113
theorem Tq.nfree113 : type_of% Try.nfree113 := Try.nfree113
theorem Tq.ntmps121 : type_of% Try.ntmps121 := Try.ntmps121
theorem Tq.results121 : type_of% Try.results121 := Try.results121
theorem Tq.params121 : type_of% Try.params121 := Try.params121
theorem Tq.nfree121 : type_of% Try.nfree121 := Try.nfree121
theorem Tq.ntmps122 : type_of% Try.ntmps122 := Try.ntmps122
theorem Tq.results122 : type_of% Try.results122 := Try.results122
theorem Tq.params122 : type_of% Try.params122 := Try.params122
theorem Tq.nfree122 : type_of% Try.nfree122 := Try.nfree122
theorem Tq.ntmps124 : type_of% Try.ntmps124 := Try.ntmps124
theorem Tq.results124 : type_of% Try.results124 := Try.results124
theorem Tq.params124 : type_of% Try.params124 := Try.params124
theorem Tq.nfree124 : type_of% Try.nfree124 := Try.nfree124
theorem Tq.ntmps126 : type_of% Try.ntmps126 := Try.ntmps126
theorem Tq.results126 : type_of% Try.results126 := Try.results126
theorem Tq.params126 : type_of% Try.params126 := Try.params126
theorem Tq.nfree126 : type_of% Try.nfree126 := Try.nfree126
theorem Tq.ntmps128 : type_of% Try.ntmps128 := Try.ntmps128
theorem Tq.results128 : type_of% Try.results128 := Try.results128
theorem Tq.params128 : type_of% Try.params128 := Try.params128
theorem Tq.nfree128 : type_of% Try.nfree128 := Try.nfree128
theorem Tq.ntmps130 : type_of% Try.ntmps130 := Try.ntmps130
theorem Tq.results130 : type_of% Try.results130 := Try.results130
theorem Tq.params130 : type_of% Try.params130 := Try.params130
theorem Tq.nfree130 : type_of% Try.nfree130 := Try.nfree130
end Go.Proofs.Ytnikfjfcbpeieaa
