/- The program with bpdu.sum turned into plain code: the same sum, one byte after the other, and as many blocks allotted; what is no slice of bytes it does not come through. The loaded program's facts, of it. Written by mktq.py. -/
import Derived.Test.YtnikfjfcbpeieaaChecked
import Derived.KernelRfl
section
namespace Go.Proofs.Ytnikfjfcbpeieaa
open Go
noncomputable def Tq.c68 : Code := (Code.seq (Code.region 0 #[{ dst := some 2, op := Op.assign (Operand.const (Value.int IntKind.u8 0)), type := 5, pos := "", after := #[], guard := none },
  { dst := some 3, op := Op.call { callee := Callee.builtin Builtin.len, args := #[Operand.tmp 0], argTypes := #[35] }, type := 3, pos := "", after := #[], guard := none },
  { dst := some 4, op := Op.slice 35 (Operand.tmp 0) none (some (Operand.tmp 3)) none, type := 35, pos := "", after := #[], guard := none },
  { dst := some 5, op := Op.move (Operand.const (Value.int IntKind.i64 0)), type := 3, pos := "", after := #[], guard := none },
  { dst := some 6, op := Op.binOp BinOp.leq 3 (Operand.tmp 3) (Operand.const (Value.int IntKind.i64 1000000000)) 3, type := 4, pos := "", after := #[], guard := none }] false)
 (Code.seq (Code.cond (Operand.tmp 6) Code.skip (Code.region 90 #[{ dst := some 15, op := Op.extract (Operand.const (Value.bool false)) 0, type := 0, pos := "", after := #[], guard := none }] false))
 (Code.seq (Code.block 0 (Code.loop (Code.seq (Code.region 1 #[{ dst := some 7, op := Op.binOp BinOp.lss 3 (Operand.tmp 5) (Operand.tmp 3) 3, type := 4, pos := "", after := #[], guard := none }] false)
 (Code.seq (Code.cond (Operand.tmp 7) Code.skip (Code.exit 0))
 (Code.seq (Code.region 2 #[{ dst := some 8, op := Op.indexAddr 35 (Operand.tmp 0) (Operand.tmp 5), type := 0, pos := "", after := #[], guard := none },
  { dst := some 9, op := Op.load 5 (Operand.tmp 8), type := 5, pos := "", after := #[], guard := none },
  { dst := some 10, op := Op.binOp BinOp.lss 5 (Operand.tmp 9) (Operand.const (Value.int IntKind.u8 256)) 5, type := 4, pos := "", after := #[], guard := none },
  { dst := some 11, op := Op.binOp BinOp.geq 5 (Operand.tmp 9) (Operand.const (Value.int IntKind.u8 0)) 5, type := 4, pos := "", after := #[], guard := none }] false)
 (Code.seq (Code.cond (Operand.tmp 10) Code.skip (Code.region 90 #[{ dst := some 15, op := Op.extract (Operand.const (Value.bool false)) 0, type := 0, pos := "", after := #[], guard := none }] false))
 (Code.seq (Code.cond (Operand.tmp 11) Code.skip (Code.region 90 #[{ dst := some 15, op := Op.extract (Operand.const (Value.bool false)) 0, type := 0, pos := "", after := #[], guard := none }] false))
 (Code.region 3 #[{ dst := some 12, op := Op.binOp BinOp.add 5 (Operand.tmp 2) (Operand.tmp 9) 5, type := 5, pos := "", after := #[], guard := none },
  { dst := some 2, op := Op.move (Operand.tmp 12), type := 5, pos := "", after := #[], guard := none },
  { dst := some 13, op := Op.binOp BinOp.add 3 (Operand.tmp 5) (Operand.const (Value.int IntKind.i64 1)) 3, type := 3, pos := "", after := #[], guard := none },
  { dst := some 5, op := Op.move (Operand.tmp 13), type := 3, pos := "", after := #[], guard := none }] false))))))))
 (Code.seq (Code.region 4 #[{ dst := some 14, op := Op.alloc 3, type := 0, pos := "", after := #[], guard := none },
  { dst := some 14, op := Op.alloc 3, type := 0, pos := "", after := #[], guard := none },
  { dst := some 14, op := Op.alloc 3, type := 0, pos := "", after := #[], guard := none },
  { dst := some 14, op := Op.alloc 3, type := 0, pos := "", after := #[], guard := none },
  { dst := some 14, op := Op.alloc 3, type := 0, pos := "", after := #[], guard := none }] false)
 Code.ret))))
noncomputable def Tq.f68 : Func := { Try.f68 with body := some Tq.c68, ntmps := 16, results := #[.tmp 2], tmpNames := #[] }
noncomputable def Tq.F : Array Func := Try.prog.funcs.setIfInBounds 68 Tq.f68
noncomputable def Tq.prog : Program := { Try.prog with funcs := Tq.F }
@[simp] theorem Tq.ntmps68 : Tq.f68.ntmps = 16 := rfl
@[simp] theorem Tq.results68 : Tq.f68.results = #[.tmp 2] := rfl
@[simp] theorem Tq.params68 : Tq.f68.params = #[35] := by kernel_rfl
@[simp] theorem Tq.nfree68 : Tq.f68.nfree = 0 := by kernel_rfl
@[simp] theorem Tq.type91 : Tq.prog.types[91]? = some Try.t91 := by kernel_rfl
@[simp] theorem Tq.func24 : Tq.prog.funcs[24]? = some Try.f24 := by kernel_rfl
@[simp] theorem Tq.typeInfo23 : ∀ (w : World), Sem.run Tq.prog (typeInfo 23) w = Result.ok Try.t23 w := by intros; kernel_rfl
@[simp] theorem Tq.typeInfo50 : ∀ (w : World), Sem.run Tq.prog (typeInfo 50) w = Result.ok Try.t50 w := by intros; kernel_rfl
@[simp] theorem Tq.sizeOf5 : ∀ (w : World), Sem.run Tq.prog (Go.sizeOf 5) w = Result.ok 1 w := by intros; kernel_rfl
@[simp] theorem Tq.sizeOf3 : ∀ (w : World), Sem.run Tq.prog (Go.sizeOf 3) w = Result.ok 1 w := by intros; kernel_rfl
@[simp] theorem Tq.zeroValue113 : ∀ (w : World), Sem.run Tq.prog (zeroValue 113) w = Result.ok (Value.slice none 0 0) w := by intros; kernel_rfl
@[simp] theorem Tq.call83 : ∀ (args : Array Value) (w : World), Sem.run Tq.prog (callFunc 83 args) w = Result.ok (Next.enter 83 args) w := by intros; kernel_rfl
@[simp] theorem Tq.call57 : ∀ (args : Array Value) (w : World), Sem.run Tq.prog (callFunc 57 args) w = Result.ok (Next.enter 57 args) w := by intros; kernel_rfl
@[simp] theorem Tq.underlying50 : Tq.prog.underlying 50 =   some     (TypeDesc.struct       #[{ name := "Root", type := 3, offset := 0, embedded := false, tag := "", pkgPath := "", byteOffset := 0 },         { name := "Cost", type := 3, offset := 1, embedded := false, tag := "", pkgPath := "", byteOffset := 8 },         { name := "Bridge", type := 3, offset := 2, embedded := false, tag := "", pkgPath := "", byteOffset := 16 },         { name := "Port", type := 3, offset := 3, embedded := false, tag := "", pkgPath := "", byteOffset := 24 }]) := by kernel_rfl
@[simp] theorem Tq.call27 : ∀ (args : Array Value) (w : World), Sem.run Tq.prog (callFunc 27 args) w = Result.ok (Next.enter 27 args) w := by intros; kernel_rfl
@[simp] theorem Tq.type23 : Tq.prog.types[23]? = some Try.t23 := by kernel_rfl
@[simp] theorem Tq.isAgg4 : ∀ (w : World), Sem.run Tq.prog (isAgg 4) w = Result.ok false w := by intros; kernel_rfl
@[simp] theorem Tq.func41 : Tq.prog.funcs[41]? = some Try.f41 := by kernel_rfl
@[simp] theorem Tq.call33 : ∀ (args : Array Value) (w : World), Sem.run Tq.prog (callFunc 33 args) w = Result.ok (Next.enter 33 args) w := by intros; kernel_rfl
@[simp] theorem Tq.call81 : ∀ (args : Array Value) (w : World), Sem.run Tq.prog (callFunc 81 args) w = Result.ok (Next.enter 81 args) w := by intros; kernel_rfl
@[simp] theorem Tq.call17 : ∀ (args : Array Value) (w : World), Sem.run Tq.prog (callFunc 17 args) w = Result.ok (Next.enter 17 args) w := by intros; kernel_rfl
@[simp] theorem Tq.func26 : Tq.prog.funcs[26]? = some Try.f26 := by kernel_rfl
@[simp] theorem Tq.types_size : Tq.prog.types.size = 172 := by kernel_rfl
@[simp] theorem Tq.sizeOf4 : ∀ (w : World), Sem.run Tq.prog (Go.sizeOf 4) w = Result.ok 1 w := by intros; kernel_rfl
@[simp] theorem Tq.call20 : ∀ (args : Array Value) (w : World), Sem.run Tq.prog (callFunc 20 args) w = Result.ok (Next.enter 20 args) w := by intros; kernel_rfl
@[simp] theorem Tq.typeInfo0 : ∀ (w : World), Sem.run Tq.prog (typeInfo 0) w = Result.ok Try.t0 w := by intros; kernel_rfl
@[simp] theorem Tq.runUnderlying3 : ∀ (w : World), Sem.run Tq.prog (underlying 3) w = Result.ok (TypeDesc.int IntKind.i64) w := by intros; kernel_rfl
@[simp] theorem Tq.zeroValue91 : ∀ (w : World),   Sem.run Tq.prog (zeroValue 91) w =     Result.ok       (Value.agg         #[Value.int IntKind.u8 0, Value.int IntKind.u8 0, Value.int IntKind.u8 0, Value.int IntKind.u8 0,           Value.int IntKind.u8 0, Value.int IntKind.u8 0])       w := by intros; kernel_rfl
@[simp] theorem Tq.typeInfo9 : ∀ (w : World), Sem.run Tq.prog (typeInfo 9) w = Result.ok Try.t9 w := by intros; kernel_rfl
@[simp] theorem Tq.func14 : Tq.prog.funcs[14]? = some Try.f14 := by kernel_rfl
@[simp] theorem Tq.func39 : Tq.prog.funcs[39]? = some Try.f39 := by kernel_rfl
@[simp] theorem Tq.sizeOf9 : ∀ (w : World), Sem.run Tq.prog (Go.sizeOf 9) w = Result.ok 1 w := by intros; kernel_rfl
@[simp] theorem Tq.isAgg0 : ∀ (w : World), Sem.run Tq.prog (isAgg 0) w = Result.ok false w := by intros; kernel_rfl
@[simp] theorem Tq.func37 : Tq.prog.funcs[37]? = some Try.f37 := by kernel_rfl
@[simp] theorem Tq.isAgg50 : ∀ (w : World), Sem.run Tq.prog (isAgg 50) w = Result.ok true w := by intros; kernel_rfl
@[simp] theorem Tq.call35 : ∀ (args : Array Value) (w : World), Sem.run Tq.prog (callFunc 35 args) w = Result.ok (Next.enter 35 args) w := by intros; kernel_rfl
@[simp] theorem Tq.call82 : ∀ (args : Array Value) (w : World), Sem.run Tq.prog (callFunc 82 args) w = Result.ok (Next.enter 82 args) w := by intros; kernel_rfl
@[simp] theorem Tq.zeroValue3 : ∀ (w : World), Sem.run Tq.prog (zeroValue 3) w = Result.ok (Value.int IntKind.i64 0) w := by intros; kernel_rfl
@[simp] theorem Tq.call18 : ∀ (args : Array Value) (w : World), Sem.run Tq.prog (callFunc 18 args) w = Result.ok (Next.enter 18 args) w := by intros; kernel_rfl
@[simp] theorem Tq.call55 : ∀ (args : Array Value) (w : World), Sem.run Tq.prog (callFunc 55 args) w = Result.ok (Next.enter 55 args) w := by intros; kernel_rfl
@[simp] theorem Tq.type52 : Tq.prog.types[52]? = some Try.t52 := by kernel_rfl
@[simp] theorem Tq.func35 : Tq.prog.funcs[35]? = some Try.f35 := by kernel_rfl
@[simp] theorem Tq.typeInfo113 : ∀ (w : World), Sem.run Tq.prog (typeInfo 113) w = Result.ok Try.t113 w := by intros; kernel_rfl
@[simp] theorem Tq.inits_eq : Tq.prog.inits = #[2] := by kernel_rfl
@[simp] theorem Tq.func83 : Tq.prog.funcs[83]? = some Try.f83 := by kernel_rfl
@[simp] theorem Tq.call60 : ∀ (args : Array Value) (w : World), Sem.run Tq.prog (callFunc 60 args) w = Result.ok (Next.enter 60 args) w := by intros; kernel_rfl
@[simp] theorem Tq.typeInfo4 : ∀ (w : World), Sem.run Tq.prog (typeInfo 4) w = Result.ok Try.t4 w := by intros; kernel_rfl
@[simp] theorem Tq.func84 : Tq.prog.funcs[84]? = some Try.f84 := by kernel_rfl
@[simp] theorem Tq.eqGuardType50 : Tq.prog.eqGuardType Tq.prog.depth 50 = false := by kernel_rfl
@[simp] theorem Tq.underlying4 : Tq.prog.underlying 4 = some TypeDesc.bool := by kernel_rfl
@[simp] theorem Tq.sizeOf23 : ∀ (w : World), Sem.run Tq.prog (Go.sizeOf 23) w = Result.ok 4 w := by intros; kernel_rfl
@[simp] theorem Tq.call16 : ∀ (args : Array Value) (w : World), Sem.run Tq.prog (callFunc 16 args) w = Result.ok (Next.enter 16 args) w := by intros; kernel_rfl
@[simp] theorem Tq.func17 : Tq.prog.funcs[17]? = some Try.f17 := by kernel_rfl
@[simp] theorem Tq.underlying35 : Tq.prog.underlying 35 = some (TypeDesc.slice 5) := by kernel_rfl
@[simp] theorem Tq.func54 : Tq.prog.funcs[54]? = some Try.f54 := by kernel_rfl
@[simp] theorem Tq.runUnderlying52 : ∀ (w : World),   Sem.run Tq.prog (underlying 52) w =     Result.ok       (TypeDesc.struct         #[{ name := "Vec", type := 50, offset := 0, embedded := false, tag := "", pkgPath := "", byteOffset := 0 },           { name := "Age", type := 3, offset := 4, embedded := false, tag := "", pkgPath := "", byteOffset := 32 }])       w := by intros; kernel_rfl
@[simp] theorem Tq.underlying113 : Tq.prog.underlying 113 = some (TypeDesc.slice 9) := by kernel_rfl
@[simp] theorem Tq.func40 : Tq.prog.funcs[40]? = some Try.f40 := by kernel_rfl
@[simp] theorem Tq.func58 : Tq.prog.funcs[58]? = some Try.f58 := by kernel_rfl
@[simp] theorem Tq.runUnderlying4 : ∀ (w : World), Sem.run Tq.prog (underlying 4) w = Result.ok TypeDesc.bool w := by intros; kernel_rfl
@[simp] theorem Tq.call14 : ∀ (args : Array Value) (w : World), Sem.run Tq.prog (callFunc 14 args) w = Result.ok (Next.enter 14 args) w := by intros; kernel_rfl
@[simp] theorem Tq.underlying0 : Tq.prog.underlying 0 = some (TypeDesc.tuple #[]) := by kernel_rfl
@[simp] theorem Tq.func21 : Tq.prog.funcs[21]? = some Try.f21 := by kernel_rfl
@[simp] theorem Tq.call40 : ∀ (args : Array Value) (w : World), Sem.run Tq.prog (callFunc 40 args) w = Result.ok (Next.enter 40 args) w := by intros; kernel_rfl
@[simp] theorem Tq.isAgg91 : ∀ (w : World), Sem.run Tq.prog (isAgg 91) w = Result.ok true w := by intros; kernel_rfl
@[simp] theorem Tq.rt_eq : Tq.prog.rt =   { boundsError := 8, errorString := 10, plainError := 11, errorAddressString := 14, typeAssertionError := 15,     panicNilError := 16, unhashableTypeError := 19, string := 9, any := 20, int := 3, bool := 4, rune := 21, byte := 5 } := by kernel_rfl
@[simp] theorem Tq.sizeOf35 : ∀ (w : World), Sem.run Tq.prog (Go.sizeOf 35) w = Result.ok 1 w := by intros; kernel_rfl
@[simp] theorem Tq.func81 : Tq.prog.funcs[81]? = some Try.f81 := by kernel_rfl
@[simp] theorem Tq.func27 : Tq.prog.funcs[27]? = some Try.f27 := by kernel_rfl
@[simp] theorem Tq.call28 : ∀ (args : Array Value) (w : World), Sem.run Tq.prog (callFunc 28 args) w = Result.ok (Next.enter 28 args) w := by intros; kernel_rfl
@[simp] theorem Tq.type113 : Tq.prog.types[113]? = some Try.t113 := by kernel_rfl
@[simp] theorem Tq.underlying3 : Tq.prog.underlying 3 = some (TypeDesc.int IntKind.i64) := by kernel_rfl
@[simp] theorem Tq.call15 : ∀ (args : Array Value) (w : World), Sem.run Tq.prog (callFunc 15 args) w = Result.ok (Next.enter 15 args) w := by intros; kernel_rfl
@[simp] theorem Tq.call68 : ∀ (args : Array Value) (w : World), Sem.run Tq.prog (callFunc 68 args) w = Result.ok (Next.enter 68 args) w := by intros; kernel_rfl
@[simp] theorem Tq.underlying5 : Tq.prog.underlying 5 = some (TypeDesc.int IntKind.u8) := by kernel_rfl
@[simp] theorem Tq.zeroValue23 : ∀ (w : World),   Sem.run Tq.prog (zeroValue 23) w =     Result.ok       (Value.agg         #[Value.int IntKind.i64 0, Value.int IntKind.i64 0, Value.int IntKind.i64 0, Value.string { data := #[] }])       w := by intros; kernel_rfl
@[simp] theorem Tq.type0 : Tq.prog.types[0]? = some Try.t0 := by kernel_rfl
@[simp] theorem Tq.runUnderlying5 : ∀ (w : World), Sem.run Tq.prog (underlying 5) w = Result.ok (TypeDesc.int IntKind.u8) w := by intros; kernel_rfl
@[simp] theorem Tq.func18 : Tq.prog.funcs[18]? = some Try.f18 := by kernel_rfl
@[simp] theorem Tq.call39 : ∀ (args : Array Value) (w : World), Sem.run Tq.prog (callFunc 39 args) w = Result.ok (Next.enter 39 args) w := by intros; kernel_rfl
@[simp] theorem Tq.underlying52 : Tq.prog.underlying 52 =   some     (TypeDesc.struct       #[{ name := "Vec", type := 50, offset := 0, embedded := false, tag := "", pkgPath := "", byteOffset := 0 },         { name := "Age", type := 3, offset := 4, embedded := false, tag := "", pkgPath := "", byteOffset := 32 }]) := by kernel_rfl
@[simp] theorem Tq.func69 : Tq.prog.funcs[69]? = some Try.f69 := by kernel_rfl
@[simp] theorem Tq.runUnderlying50 : ∀ (w : World),   Sem.run Tq.prog (underlying 50) w =     Result.ok       (TypeDesc.struct         #[{ name := "Root", type := 3, offset := 0, embedded := false, tag := "", pkgPath := "", byteOffset := 0 },           { name := "Cost", type := 3, offset := 1, embedded := false, tag := "", pkgPath := "", byteOffset := 8 },           { name := "Bridge", type := 3, offset := 2, embedded := false, tag := "", pkgPath := "", byteOffset := 16 },           { name := "Port", type := 3, offset := 3, embedded := false, tag := "", pkgPath := "", byteOffset := 24 }])       w := by intros; kernel_rfl
@[simp] theorem Tq.typeInfo3 : ∀ (w : World), Sem.run Tq.prog (typeInfo 3) w = Result.ok Try.t3 w := by intros; kernel_rfl
@[simp] theorem Tq.call21 : ∀ (args : Array Value) (w : World), Sem.run Tq.prog (callFunc 21 args) w = Result.ok (Next.enter 21 args) w := by intros; kernel_rfl
@[simp] theorem Tq.call59 : ∀ (args : Array Value) (w : World), Sem.run Tq.prog (callFunc 59 args) w = Result.ok (Next.enter 59 args) w := by intros; kernel_rfl
@[simp] theorem Tq.call84 : ∀ (args : Array Value) (w : World), Sem.run Tq.prog (callFunc 84 args) w = Result.ok (Next.enter 84 args) w := by intros; kernel_rfl
@[simp] theorem Tq.zeroValue5 : ∀ (w : World), Sem.run Tq.prog (zeroValue 5) w = Result.ok (Value.int IntKind.u8 0) w := by intros; kernel_rfl
@[simp] theorem Tq.runUnderlying0 : ∀ (w : World), Sem.run Tq.prog (underlying 0) w = Result.ok (TypeDesc.tuple #[]) w := by intros; kernel_rfl
@[simp] theorem Tq.main_eq : Tq.prog.main = 0 := by kernel_rfl
@[simp] theorem Tq.call62 : ∀ (args : Array Value) (w : World), Sem.run Tq.prog (callFunc 62 args) w = Result.ok (Next.enter 62 args) w := by intros; kernel_rfl
@[simp] theorem Tq.call10 : ∀ (args : Array Value) (w : World), Sem.run Tq.prog (callFunc 10 args) w = Result.ok (Next.enter 10 args) w := by intros; kernel_rfl
@[simp] theorem Tq.type3 : Tq.prog.types[3]? = some Try.t3 := by kernel_rfl
@[simp] theorem Tq.func60 : Tq.prog.funcs[60]? = some Try.f60 := by kernel_rfl
@[simp] theorem Tq.call69 : ∀ (args : Array Value) (w : World), Sem.run Tq.prog (callFunc 69 args) w = Result.ok (Next.enter 69 args) w := by intros; kernel_rfl
@[simp] theorem Tq.func16 : Tq.prog.funcs[16]? = some Try.f16 := by kernel_rfl
@[simp] theorem Tq.eqGuardType52 : Tq.prog.eqGuardType Tq.prog.depth 52 = false := by kernel_rfl
@[simp] theorem Tq.zeroValue50 : ∀ (w : World),   Sem.run Tq.prog (zeroValue 50) w =     Result.ok       (Value.agg #[Value.int IntKind.i64 0, Value.int IntKind.i64 0, Value.int IntKind.i64 0, Value.int IntKind.i64 0])       w := by intros; kernel_rfl
@[simp] theorem Tq.func28 : Tq.prog.funcs[28]? = some Try.f28 := by kernel_rfl
@[simp] theorem Tq.func67 : Tq.prog.funcs[67]? = some Try.f67 := by kernel_rfl
@[simp] theorem Tq.func10 : Tq.prog.funcs[10]? = some Try.f10 := by kernel_rfl
@[simp] theorem Tq.call41 : ∀ (args : Array Value) (w : World), Sem.run Tq.prog (callFunc 41 args) w = Result.ok (Next.enter 41 args) w := by intros; kernel_rfl
@[simp] theorem Tq.sizeOf50 : ∀ (w : World), Sem.run Tq.prog (Go.sizeOf 50) w = Result.ok 4 w := by intros; kernel_rfl
@[simp] theorem Tq.type35 : Tq.prog.types[35]? = some Try.t35 := by kernel_rfl
@[simp] theorem Tq.zeroValue35 : ∀ (w : World), Sem.run Tq.prog (zeroValue 35) w = Result.ok (Value.slice none 0 0) w := by intros; kernel_rfl
@[simp] theorem Tq.zeroValue0 : ∀ (w : World), Sem.run Tq.prog (zeroValue 0) w = Result.ok (Value.tuple #[]) w := by intros; kernel_rfl
@[simp] theorem Tq.call56 : ∀ (args : Array Value) (w : World), Sem.run Tq.prog (callFunc 56 args) w = Result.ok (Next.enter 56 args) w := by intros; kernel_rfl
@[simp] theorem Tq.runUnderlying91 : ∀ (w : World), Sem.run Tq.prog (underlying 91) w = Result.ok (TypeDesc.array 6 5) w := by intros; kernel_rfl
@[simp] theorem Tq.isAgg9 : ∀ (w : World), Sem.run Tq.prog (isAgg 9) w = Result.ok false w := by intros; kernel_rfl
@[simp] theorem Tq.func20 : Tq.prog.funcs[20]? = some Try.f20 := by kernel_rfl
@[simp] theorem Tq.typeInfo52 : ∀ (w : World), Sem.run Tq.prog (typeInfo 52) w = Result.ok Try.t52 w := by intros; kernel_rfl
@[simp] theorem Tq.func80 : Tq.prog.funcs[80]? = some Try.f80 := by kernel_rfl
@[simp] theorem Tq.runUnderlying9 : ∀ (w : World), Sem.run Tq.prog (underlying 9) w = Result.ok TypeDesc.string w := by intros; kernel_rfl
@[simp] theorem Tq.call32 : ∀ (args : Array Value) (w : World), Sem.run Tq.prog (callFunc 32 args) w = Result.ok (Next.enter 32 args) w := by intros; kernel_rfl
@[simp] theorem Tq.underlying23 : Tq.prog.underlying 23 =   some     (TypeDesc.struct       #[{ name := "Dst", type := 3, offset := 0, embedded := false, tag := "", pkgPath := "", byteOffset := 0 },         { name := "Src", type := 3, offset := 1, embedded := false, tag := "", pkgPath := "", byteOffset := 8 },         { name := "Type", type := 3, offset := 2, embedded := false, tag := "", pkgPath := "", byteOffset := 16 },         { name := "Data", type := 9, offset := 3, embedded := false, tag := "", pkgPath := "", byteOffset := 24 }]) := by kernel_rfl
@[simp] theorem Tq.call80 : ∀ (args : Array Value) (w : World), Sem.run Tq.prog (callFunc 80 args) w = Result.ok (Next.enter 80 args) w := by intros; kernel_rfl
@[simp] theorem Tq.isAgg3 : ∀ (w : World), Sem.run Tq.prog (isAgg 3) w = Result.ok false w := by intros; kernel_rfl
@[simp] theorem Tq.call58 : ∀ (args : Array Value) (w : World), Sem.run Tq.prog (callFunc 58 args) w = Result.ok (Next.enter 58 args) w := by intros; kernel_rfl
@[simp] theorem Tq.eqGuardType23 : Tq.prog.eqGuardType Tq.prog.depth 23 = false := by kernel_rfl
@[simp] theorem Tq.zeroValue9 : ∀ (w : World), Sem.run Tq.prog (zeroValue 9) w = Result.ok (Value.string { data := #[] }) w := by intros; kernel_rfl
@[simp] theorem Tq.typeInfo91 : ∀ (w : World), Sem.run Tq.prog (typeInfo 91) w = Result.ok Try.t91 w := by intros; kernel_rfl
@[simp] theorem Tq.underlying9 : Tq.prog.underlying 9 = some TypeDesc.string := by kernel_rfl
@[simp] theorem Tq.call61 : ∀ (args : Array Value) (w : World), Sem.run Tq.prog (callFunc 61 args) w = Result.ok (Next.enter 61 args) w := by intros; kernel_rfl
@[simp] theorem Tq.func62 : Tq.prog.funcs[62]? = some Try.f62 := by kernel_rfl
@[simp] theorem Tq.func61 : Tq.prog.funcs[61]? = some Try.f61 := by kernel_rfl
@[simp] theorem Tq.type50 : Tq.prog.types[50]? = some Try.t50 := by kernel_rfl
@[simp] theorem Tq.type4 : Tq.prog.types[4]? = some Try.t4 := by kernel_rfl
@[simp] theorem Tq.sizeOf52 : ∀ (w : World), Sem.run Tq.prog (Go.sizeOf 52) w = Result.ok 5 w := by intros; kernel_rfl
@[simp] theorem Tq.func68 : Tq.prog.funcs[68]? = some Tq.f68 := by kernel_rfl
@[simp] theorem Tq.call67 : ∀ (args : Array Value) (w : World), Sem.run Tq.prog (callFunc 67 args) w = Result.ok (Next.enter 67 args) w := by intros; kernel_rfl
@[simp] theorem Tq.runUnderlying35 : ∀ (w : World), Sem.run Tq.prog (underlying 35) w = Result.ok (TypeDesc.slice 5) w := by intros; kernel_rfl
@[simp] theorem Tq.func25 : Tq.prog.funcs[25]? = some Try.f25 := by kernel_rfl
@[simp] theorem Tq.func82 : Tq.prog.funcs[82]? = some Try.f82 := by kernel_rfl
@[simp] theorem Tq.func56 : Tq.prog.funcs[56]? = some Try.f56 := by kernel_rfl
@[simp] theorem Tq.zeroValue52 : ∀ (w : World),   Sem.run Tq.prog (zeroValue 52) w =     Result.ok       (Value.agg         #[Value.int IntKind.i64 0, Value.int IntKind.i64 0, Value.int IntKind.i64 0, Value.int IntKind.i64 0,           Value.int IntKind.i64 0])       w := by intros; kernel_rfl
@[simp] theorem Tq.typeInfo5 : ∀ (w : World), Sem.run Tq.prog (typeInfo 5) w = Result.ok Try.t5 w := by intros; kernel_rfl
@[simp] theorem Tq.type5 : Tq.prog.types[5]? = some Try.t5 := by kernel_rfl
@[simp] theorem Tq.isAgg113 : ∀ (w : World), Sem.run Tq.prog (isAgg 113) w = Result.ok false w := by intros; kernel_rfl
@[simp] theorem Tq.func59 : Tq.prog.funcs[59]? = some Try.f59 := by kernel_rfl
@[simp] theorem Tq.call25 : ∀ (args : Array Value) (w : World), Sem.run Tq.prog (callFunc 25 args) w = Result.ok (Next.enter 25 args) w := by intros; kernel_rfl
@[simp] theorem Tq.func55 : Tq.prog.funcs[55]? = some Try.f55 := by kernel_rfl
@[simp] theorem Tq.isAgg5 : ∀ (w : World), Sem.run Tq.prog (isAgg 5) w = Result.ok false w := by intros; kernel_rfl
@[simp] theorem Tq.func32 : Tq.prog.funcs[32]? = some Try.f32 := by kernel_rfl
@[simp] theorem Tq.call36 : ∀ (args : Array Value) (w : World), Sem.run Tq.prog (callFunc 36 args) w = Result.ok (Next.enter 36 args) w := by intros; kernel_rfl
@[simp] theorem Tq.call24 : ∀ (args : Array Value) (w : World), Sem.run Tq.prog (callFunc 24 args) w = Result.ok (Next.enter 24 args) w := by intros; kernel_rfl
@[simp] theorem Tq.sizeOf91 : ∀ (w : World), Sem.run Tq.prog (Go.sizeOf 91) w = Result.ok 6 w := by intros; kernel_rfl
@[simp] theorem Tq.func15 : Tq.prog.funcs[15]? = some Try.f15 := by kernel_rfl
@[simp] theorem Tq.eqGuardType91 : Tq.prog.eqGuardType Tq.prog.depth 91 = false := by kernel_rfl
@[simp] theorem Tq.isAgg23 : ∀ (w : World), Sem.run Tq.prog (isAgg 23) w = Result.ok true w := by intros; kernel_rfl
@[simp] theorem Tq.runUnderlying113 : ∀ (w : World), Sem.run Tq.prog (underlying 113) w = Result.ok (TypeDesc.slice 9) w := by intros; kernel_rfl
@[simp] theorem Tq.underlying91 : Tq.prog.underlying 91 = some (TypeDesc.array 6 5) := by kernel_rfl
@[simp] theorem Tq.sizeOf113 : ∀ (w : World), Sem.run Tq.prog (Go.sizeOf 113) w = Result.ok 1 w := by intros; kernel_rfl
@[simp] theorem Tq.type9 : Tq.prog.types[9]? = some Try.t9 := by kernel_rfl
@[simp] theorem Tq.call37 : ∀ (args : Array Value) (w : World), Sem.run Tq.prog (callFunc 37 args) w = Result.ok (Next.enter 37 args) w := by intros; kernel_rfl
@[simp] theorem Tq.zeroValue4 : ∀ (w : World), Sem.run Tq.prog (zeroValue 4) w = Result.ok (Value.bool false) w := by intros; kernel_rfl
@[simp] theorem Tq.runUnderlying23 : ∀ (w : World),   Sem.run Tq.prog (underlying 23) w =     Result.ok       (TypeDesc.struct         #[{ name := "Dst", type := 3, offset := 0, embedded := false, tag := "", pkgPath := "", byteOffset := 0 },           { name := "Src", type := 3, offset := 1, embedded := false, tag := "", pkgPath := "", byteOffset := 8 },           { name := "Type", type := 3, offset := 2, embedded := false, tag := "", pkgPath := "", byteOffset := 16 },           { name := "Data", type := 9, offset := 3, embedded := false, tag := "", pkgPath := "", byteOffset := 24 }])       w := by intros; kernel_rfl
@[simp] theorem Tq.isAgg52 : ∀ (w : World), Sem.run Tq.prog (isAgg 52) w = Result.ok true w := by intros; kernel_rfl
@[simp] theorem Tq.func33 : Tq.prog.funcs[33]? = some Try.f33 := by kernel_rfl
@[simp] theorem Tq.func36 : Tq.prog.funcs[36]? = some Try.f36 := by kernel_rfl
@[simp] theorem Tq.call26 : ∀ (args : Array Value) (w : World), Sem.run Tq.prog (callFunc 26 args) w = Result.ok (Next.enter 26 args) w := by intros; kernel_rfl
@[simp] theorem Tq.isAgg35 : ∀ (w : World), Sem.run Tq.prog (isAgg 35) w = Result.ok false w := by intros; kernel_rfl
@[simp] theorem Tq.sizeOf0 : ∀ (w : World), Sem.run Tq.prog (Go.sizeOf 0) w = Result.ok 1 w := by intros; kernel_rfl
@[simp] theorem Tq.call54 : ∀ (args : Array Value) (w : World), Sem.run Tq.prog (callFunc 54 args) w = Result.ok (Next.enter 54 args) w := by intros; kernel_rfl
@[simp] theorem Tq.func57 : Tq.prog.funcs[57]? = some Try.f57 := by kernel_rfl
@[simp] theorem Tq.typeInfo35 : ∀ (w : World), Sem.run Tq.prog (typeInfo 35) w = Result.ok Try.t35 w := by intros; kernel_rfl
@[simp] theorem Tq.globals_size : Tq.prog.globals.size = 0 := by kernel_rfl
theorem Tq.ntmps10 : type_of% Try.ntmps10 := Try.ntmps10
theorem Tq.results10 : type_of% Try.results10 := Try.results10
theorem Tq.params10 : type_of% Try.params10 := Try.params10
theorem Tq.nfree10 : type_of% Try.nfree10 := Try.nfree10
theorem Tq.ntmps14 : type_of% Try.ntmps14 := Try.ntmps14
theorem Tq.results14 : type_of% Try.results14 := Try.results14
theorem Tq.params14 : type_of% Try.params14 := Try.params14
theorem Tq.nfree14 : type_of% Try.nfree14 := Try.nfree14
theorem Tq.ntmps15 : type_of% Try.ntmps15 := Try.ntmps15
theorem Tq.results15 : type_of% Try.results15 := Try.results15
theorem Tq.params15 : type_of% Try.params15 := Try.params15
theorem Tq.nfree15 : type_of% Try.nfree15 := Try.nfree15
theorem Tq.ntmps16 : type_of% Try.ntmps16 := Try.ntmps16
theorem Tq.results16 : type_of% Try.results16 := Try.results16
theorem Tq.params16 : type_of% Try.params16 := Try.params16
theorem Tq.nfree16 : type_of% Try.nfree16 := Try.nfree16
theorem Tq.ntmps17 : type_of% Try.ntmps17 := Try.ntmps17
theorem Tq.results17 : type_of% Try.results17 := Try.results17
theorem Tq.params17 : type_of% Try.params17 := Try.params17
theorem Tq.nfree17 : type_of% Try.nfree17 := Try.nfree17
theorem Tq.ntmps18 : type_of% Try.ntmps18 := Try.ntmps18
theorem Tq.results18 : type_of% Try.results18 := Try.results18
theorem Tq.params18 : type_of% Try.params18 := Try.params18
theorem Tq.nfree18 : type_of% Try.nfree18 := Try.nfree18
theorem Tq.ntmps20 : type_of% Try.ntmps20 := Try.ntmps20
theorem Tq.results20 : type_of% Try.results20 := Try.results20
theorem Tq.params20 : type_of% Try.params20 := Try.params20
theorem Tq.nfree20 : type_of% Try.nfree20 := Try.nfree20
theorem Tq.ntmps21 : type_of% Try.ntmps21 := Try.ntmps21
theorem Tq.results21 : type_of% Try.results21 := Try.results21
theorem Tq.params21 : type_of% Try.params21 := Try.params21
theorem Tq.nfree21 : type_of% Try.nfree21 := Try.nfree21
theorem Tq.ntmps24 : type_of% Try.ntmps24 := Try.ntmps24
theorem Tq.results24 : type_of% Try.results24 := Try.results24
theorem Tq.params24 : type_of% Try.params24 := Try.params24
theorem Tq.nfree24 : type_of% Try.nfree24 := Try.nfree24
theorem Tq.ntmps25 : type_of% Try.ntmps25 := Try.ntmps25
theorem Tq.results25 : type_of% Try.results25 := Try.results25
theorem Tq.params25 : type_of% Try.params25 := Try.params25
theorem Tq.nfree25 : type_of% Try.nfree25 := Try.nfree25
theorem Tq.ntmps26 : type_of% Try.ntmps26 := Try.ntmps26
theorem Tq.results26 : type_of% Try.results26 := Try.results26
theorem Tq.params26 : type_of% Try.params26 := Try.params26
theorem Tq.nfree26 : type_of% Try.nfree26 := Try.nfree26
theorem Tq.ntmps27 : type_of% Try.ntmps27 := Try.ntmps27
theorem Tq.results27 : type_of% Try.results27 := Try.results27
theorem Tq.params27 : type_of% Try.params27 := Try.params27
theorem Tq.nfree27 : type_of% Try.nfree27 := Try.nfree27
theorem Tq.ntmps28 : type_of% Try.ntmps28 := Try.ntmps28
theorem Tq.results28 : type_of% Try.results28 := Try.results28
theorem Tq.params28 : type_of% Try.params28 := Try.params28
theorem Tq.nfree28 : type_of% Try.nfree28 := Try.nfree28
theorem Tq.ntmps32 : type_of% Try.ntmps32 := Try.ntmps32
theorem Tq.results32 : type_of% Try.results32 := Try.results32
theorem Tq.params32 : type_of% Try.params32 := Try.params32
theorem Tq.nfree32 : type_of% Try.nfree32 := Try.nfree32
theorem Tq.ntmps33 : type_of% Try.ntmps33 := Try.ntmps33
theorem Tq.results33 : type_of% Try.results33 := Try.results33
theorem Tq.params33 : type_of% Try.params33 := Try.params33
theorem Tq.nfree33 : type_of% Try.nfree33 := Try.nfree33
theorem Tq.ntmps35 : type_of% Try.ntmps35 := Try.ntmps35
theorem Tq.results35 : type_of% Try.results35 := Try.results35
theorem Tq.params35 : type_of% Try.params35 := Try.params35
theorem Tq.nfree35 : type_of% Try.nfree35 := Try.nfree35
theorem Tq.ntmps36 : type_of% Try.ntmps36 := Try.ntmps36
theorem Tq.results36 : type_of% Try.results36 := Try.results36
theorem Tq.params36 : type_of% Try.params36 := Try.params36
theorem Tq.nfree36 : type_of% Try.nfree36 := Try.nfree36
theorem Tq.ntmps37 : type_of% Try.ntmps37 := Try.ntmps37
theorem Tq.results37 : type_of% Try.results37 := Try.results37
theorem Tq.params37 : type_of% Try.params37 := Try.params37
theorem Tq.nfree37 : type_of% Try.nfree37 := Try.nfree37
theorem Tq.ntmps39 : type_of% Try.ntmps39 := Try.ntmps39
theorem Tq.results39 : type_of% Try.results39 := Try.results39
theorem Tq.params39 : type_of% Try.params39 := Try.params39
theorem Tq.nfree39 : type_of% Try.nfree39 := Try.nfree39
theorem Tq.ntmps40 : type_of% Try.ntmps40 := Try.ntmps40
theorem Tq.results40 : type_of% Try.results40 := Try.results40
theorem Tq.params40 : type_of% Try.params40 := Try.params40
theorem Tq.nfree40 : type_of% Try.nfree40 := Try.nfree40
theorem Tq.ntmps41 : type_of% Try.ntmps41 := Try.ntmps41
theorem Tq.results41 : type_of% Try.results41 := Try.results41
theorem Tq.params41 : type_of% Try.params41 := Try.params41
theorem Tq.nfree41 : type_of% Try.nfree41 := Try.nfree41
theorem Tq.ntmps54 : type_of% Try.ntmps54 := Try.ntmps54
theorem Tq.results54 : type_of% Try.results54 := Try.results54
theorem Tq.params54 : type_of% Try.params54 := Try.params54
theorem Tq.nfree54 : type_of% Try.nfree54 := Try.nfree54
theorem Tq.ntmps55 : type_of% Try.ntmps55 := Try.ntmps55
theorem Tq.results55 : type_of% Try.results55 := Try.results55
theorem Tq.params55 : type_of% Try.params55 := Try.params55
theorem Tq.nfree55 : type_of% Try.nfree55 := Try.nfree55
theorem Tq.ntmps56 : type_of% Try.ntmps56 := Try.ntmps56
theorem Tq.results56 : type_of% Try.results56 := Try.results56
theorem Tq.params56 : type_of% Try.params56 := Try.params56
theorem Tq.nfree56 : type_of% Try.nfree56 := Try.nfree56
theorem Tq.ntmps57 : type_of% Try.ntmps57 := Try.ntmps57
theorem Tq.results57 : type_of% Try.results57 := Try.results57
theorem Tq.params57 : type_of% Try.params57 := Try.params57
theorem Tq.nfree57 : type_of% Try.nfree57 := Try.nfree57
theorem Tq.ntmps58 : type_of% Try.ntmps58 := Try.ntmps58
theorem Tq.results58 : type_of% Try.results58 := Try.results58
theorem Tq.params58 : type_of% Try.params58 := Try.params58
theorem Tq.nfree58 : type_of% Try.nfree58 := Try.nfree58
theorem Tq.ntmps59 : type_of% Try.ntmps59 := Try.ntmps59
theorem Tq.results59 : type_of% Try.results59 := Try.results59
theorem Tq.params59 : type_of% Try.params59 := Try.params59
theorem Tq.nfree59 : type_of% Try.nfree59 := Try.nfree59
theorem Tq.ntmps60 : type_of% Try.ntmps60 := Try.ntmps60
theorem Tq.results60 : type_of% Try.results60 := Try.results60
theorem Tq.params60 : type_of% Try.params60 := Try.params60
theorem Tq.nfree60 : type_of% Try.nfree60 := Try.nfree60
theorem Tq.ntmps61 : type_of% Try.ntmps61 := Try.ntmps61
theorem Tq.results61 : type_of% Try.results61 := Try.results61
theorem Tq.params61 : type_of% Try.params61 := Try.params61
theorem Tq.nfree61 : type_of% Try.nfree61 := Try.nfree61
theorem Tq.ntmps62 : type_of% Try.ntmps62 := Try.ntmps62
theorem Tq.results62 : type_of% Try.results62 := Try.results62
theorem Tq.params62 : type_of% Try.params62 := Try.params62
theorem Tq.nfree62 : type_of% Try.nfree62 := Try.nfree62
theorem Tq.ntmps67 : type_of% Try.ntmps67 := Try.ntmps67
theorem Tq.results67 : type_of% Try.results67 := Try.results67
theorem Tq.params67 : type_of% Try.params67 := Try.params67
theorem Tq.nfree67 : type_of% Try.nfree67 := Try.nfree67
theorem Tq.ntmps69 : type_of% Try.ntmps69 := Try.ntmps69
theorem Tq.results69 : type_of% Try.results69 := Try.results69
theorem Tq.params69 : type_of% Try.params69 := Try.params69
theorem Tq.nfree69 : type_of% Try.nfree69 := Try.nfree69
theorem Tq.ntmps80 : type_of% Try.ntmps80 := Try.ntmps80
theorem Tq.results80 : type_of% Try.results80 := Try.results80
theorem Tq.params80 : type_of% Try.params80 := Try.params80
theorem Tq.nfree80 : type_of% Try.nfree80 := Try.nfree80
theorem Tq.ntmps81 : type_of% Try.ntmps81 := Try.ntmps81
theorem Tq.results81 : type_of% Try.results81 := Try.results81
theorem Tq.params81 : type_of% Try.params81 := Try.params81
theorem Tq.nfree81 : type_of% Try.nfree81 := Try.nfree81
theorem Tq.ntmps82 : type_of% Try.ntmps82 := Try.ntmps82
theorem Tq.results82 : type_of% Try.results82 := Try.results82
theorem Tq.params82 : type_of% Try.params82 := Try.params82
theorem Tq.nfree82 : type_of% Try.nfree82 := Try.nfree82
theorem Tq.ntmps83 : type_of% Try.ntmps83 := Try.ntmps83
theorem Tq.results83 : type_of% Try.results83 := Try.results83
theorem Tq.params83 : type_of% Try.params83 := Try.params83
theorem Tq.nfree83 : type_of% Try.nfree83 := Try.nfree83
theorem Tq.ntmps84 : type_of% Try.ntmps84 := Try.ntmps84
theorem Tq.results84 : type_of% Try.results84 := Try.results84
theorem Tq.params84 : type_of% Try.params84 := Try.params84
theorem Tq.nfree84 : type_of% Try.nfree84 := Try.nfree84
end Go.Proofs.Ytnikfjfcbpeieaa
end
