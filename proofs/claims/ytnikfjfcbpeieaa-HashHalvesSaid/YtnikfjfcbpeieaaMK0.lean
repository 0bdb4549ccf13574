/- The program with hash.Spread turned into plain code: the same counts, one address after the other, and as many blocks allotted; what is no slice of numbers it does not come through. The loaded program's facts, of it. Written by mkth.py. -/
import Derived.Test.YtnikfjfcbpeieaaChecked
import Derived.KernelRfl
section
namespace Go.Proofs.Ytnikfjfcbpeieaa
open Go
noncomputable def Th.c45 : Code := (Code.seq (Code.region 0 #[{ dst := some 2, op := Op.assign (Operand.const (Value.slice none 0 0)), type := 57, pos := "", after := #[], guard := none },
  { dst := some 3, op := Op.assign (Operand.const (Value.int IntKind.i64 0)), type := 25, pos := "", after := #[], guard := none },
  { dst := some 4, op := Op.call { callee := Callee.builtin Builtin.len, args := #[Operand.tmp 0], argTypes := #[57] }, type := 3, pos := "", after := #[], guard := none },
  { dst := some 5, op := Op.slice 57 (Operand.tmp 0) none (some (Operand.tmp 4)) none, type := 57, pos := "", after := #[], guard := none },
  { dst := some 6, op := Op.binOp BinOp.geq 3 (Operand.tmp 1) (Operand.const (Value.int IntKind.i64 1)) 3, type := 4, pos := "", after := #[], guard := none },
  { dst := some 7, op := Op.binOp BinOp.leq 3 (Operand.tmp 4) (Operand.const (Value.int IntKind.i64 1000000000)) 3, type := 4, pos := "", after := #[], guard := none },
  { dst := some 8, op := Op.move (Operand.const (Value.int IntKind.i64 0)), type := 3, pos := "", after := #[], guard := none },
  { dst := some 9, op := Op.move (Operand.const (Value.bool true)), type := 4, pos := "", after := #[], guard := none }] false)
 (Code.seq (Code.cond (Operand.tmp 7) Code.skip (Code.region 90 #[{ dst := some 35, op := Op.extract (Operand.const (Value.bool false)) 0, type := 0, pos := "", after := #[], guard := none }] false))
 (Code.seq (Code.block 0 (Code.loop (Code.seq (Code.region 1 #[{ dst := some 10, op := Op.binOp BinOp.lss 3 (Operand.tmp 8) (Operand.tmp 4) 3, type := 4, pos := "", after := #[], guard := none }] false)
 (Code.seq (Code.cond (Operand.tmp 10) Code.skip (Code.exit 0))
 (Code.region 2 #[{ dst := some 11, op := Op.indexAddr 57 (Operand.tmp 0) (Operand.tmp 8), type := 0, pos := "", after := #[], guard := none },
   { dst := some 12, op := Op.load 3 (Operand.tmp 11), type := 3, pos := "", after := #[], guard := none },
   { dst := some 13, op := Op.binOp BinOp.geq 3 (Operand.tmp 12) (Operand.const (Value.int IntKind.i64 0)) 3, type := 4, pos := "", after := #[], guard := none },
   { dst := some 14, op := Op.binOp BinOp.leq 3 (Operand.tmp 12) (Operand.const (Value.int IntKind.i64 281474976710655)) 3, type := 4, pos := "", after := #[], guard := none },
   { dst := some 15, op := Op.pick (Operand.tmp 13) (Operand.tmp 14) (Operand.const (Value.bool false)), type := 4, pos := "", after := #[], guard := none },
   { dst := some 9, op := Op.pick (Operand.tmp 9) (Operand.tmp 15) (Operand.const (Value.bool false)), type := 4, pos := "", after := #[], guard := none },
   { dst := some 34, op := Op.binOp BinOp.add 3 (Operand.tmp 8) (Operand.const (Value.int IntKind.i64 1)) 3, type := 3, pos := "", after := #[], guard := none },
   { dst := some 8, op := Op.move (Operand.tmp 34), type := 3, pos := "", after := #[], guard := none }] false)))))
 (Code.seq (Code.region 3 #[{ dst := some 16, op := Op.alloc 3, type := 0, pos := "", after := #[], guard := none },
   { dst := some 17, op := Op.binOp BinOp.leq 3 (Operand.tmp 1) (Operand.const (Value.int IntKind.i64 16)) 3, type := 4, pos := "", after := #[], guard := none },
   { dst := some 18, op := Op.binOp BinOp.sub 3 (Operand.tmp 1) (Operand.const (Value.int IntKind.i64 1)) 3, type := 3, pos := "", after := #[], guard := none },
   { dst := some 19, op := Op.binOp BinOp.and 3 (Operand.tmp 1) (Operand.tmp 18) 3, type := 3, pos := "", after := #[], guard := none },
   { dst := some 20, op := Op.binOp BinOp.eql 3 (Operand.tmp 19) (Operand.const (Value.int IntKind.i64 0)) 3, type := 4, pos := "", after := #[], guard := none },
   { dst := some 21, op := Op.pick (Operand.tmp 6) (Operand.tmp 17) (Operand.const (Value.bool false)), type := 4, pos := "", after := #[], guard := none },
   { dst := some 22, op := Op.pick (Operand.tmp 21) (Operand.tmp 20) (Operand.const (Value.bool false)), type := 4, pos := "", after := #[], guard := none }] false)
 (Code.seq (Code.cond (Operand.tmp 22) Code.skip (Code.seq (Code.region 4 #[{ dst := some 3, op := Op.assign (Operand.const (Value.int IntKind.i64 2)), type := 25, pos := "", after := #[], guard := none }] false) Code.ret))
 (Code.seq (Code.cond (Operand.tmp 9) Code.skip (Code.seq (Code.region 5 #[{ dst := some 3, op := Op.assign (Operand.const (Value.int IntKind.i64 1)), type := 25, pos := "", after := #[], guard := none }] false) Code.ret))
 (Code.seq (Code.region 6 #[{ dst := some 2, op := Op.makeSlice 57 (Operand.tmp 1) (Operand.tmp 1), type := 57, pos := "", after := #[], guard := none },
   { dst := some 16, op := Op.alloc 3, type := 0, pos := "", after := #[], guard := none },
   { dst := some 16, op := Op.alloc 3, type := 0, pos := "", after := #[], guard := none },
   { dst := some 16, op := Op.alloc 3, type := 0, pos := "", after := #[], guard := none },
   { dst := some 16, op := Op.alloc 3, type := 0, pos := "", after := #[], guard := none },
   { dst := some 16, op := Op.alloc 3, type := 0, pos := "", after := #[], guard := none },
   { dst := some 16, op := Op.alloc 3, type := 0, pos := "", after := #[], guard := none },
   { dst := some 8, op := Op.move (Operand.const (Value.int IntKind.i64 0)), type := 3, pos := "", after := #[], guard := none }] false)
 (Code.seq (Code.block 1 (Code.loop (Code.seq (Code.region 7 #[{ dst := some 10, op := Op.binOp BinOp.lss 3 (Operand.tmp 8) (Operand.tmp 4) 3, type := 4, pos := "", after := #[], guard := none }] false)
 (Code.seq (Code.cond (Operand.tmp 10) Code.skip (Code.exit 1))
 (Code.region 8 #[{ dst := some 16, op := Op.alloc 3, type := 0, pos := "", after := #[], guard := none },
   { dst := some 11, op := Op.indexAddr 57 (Operand.tmp 0) (Operand.tmp 8), type := 0, pos := "", after := #[], guard := none },
   { dst := some 12, op := Op.load 3 (Operand.tmp 11), type := 3, pos := "", after := #[], guard := none },
   { dst := some 23, op := Op.assign (Operand.const (Value.int IntKind.u32 2166136261)), type := 78, pos := "", after := #[], guard := none },
   { dst := some 24, op := Op.binOp BinOp.shr 3 (Operand.tmp 12) (Operand.const (Value.int IntKind.i64 40)) 3, type := 3, pos := "", after := #[], guard := none },
   { dst := some 25, op := Op.convert 3 5 (Operand.tmp 24), type := 5, pos := "", after := #[], guard := none },
   { dst := some 26, op := Op.convert 5 78 (Operand.tmp 25), type := 78, pos := "", after := #[], guard := none },
   { dst := some 27, op := Op.binOp BinOp.xor 78 (Operand.tmp 23) (Operand.tmp 26) 78, type := 78, pos := "", after := #[], guard := none },
   { dst := some 23, op := Op.binOp BinOp.mul 78 (Operand.tmp 27) (Operand.const (Value.int IntKind.u32 16777619)) 78, type := 78, pos := "", after := #[], guard := none },
   { dst := some 24, op := Op.binOp BinOp.shr 3 (Operand.tmp 12) (Operand.const (Value.int IntKind.i64 32)) 3, type := 3, pos := "", after := #[], guard := none },
   { dst := some 25, op := Op.convert 3 5 (Operand.tmp 24), type := 5, pos := "", after := #[], guard := none },
   { dst := some 26, op := Op.convert 5 78 (Operand.tmp 25), type := 78, pos := "", after := #[], guard := none },
   { dst := some 27, op := Op.binOp BinOp.xor 78 (Operand.tmp 23) (Operand.tmp 26) 78, type := 78, pos := "", after := #[], guard := none },
   { dst := some 23, op := Op.binOp BinOp.mul 78 (Operand.tmp 27) (Operand.const (Value.int IntKind.u32 16777619)) 78, type := 78, pos := "", after := #[], guard := none },
   { dst := some 24, op := Op.binOp BinOp.shr 3 (Operand.tmp 12) (Operand.const (Value.int IntKind.i64 24)) 3, type := 3, pos := "", after := #[], guard := none },
   { dst := some 25, op := Op.convert 3 5 (Operand.tmp 24), type := 5, pos := "", after := #[], guard := none },
   { dst := some 26, op := Op.convert 5 78 (Operand.tmp 25), type := 78, pos := "", after := #[], guard := none },
   { dst := some 27, op := Op.binOp BinOp.xor 78 (Operand.tmp 23) (Operand.tmp 26) 78, type := 78, pos := "", after := #[], guard := none },
   { dst := some 23, op := Op.binOp BinOp.mul 78 (Operand.tmp 27) (Operand.const (Value.int IntKind.u32 16777619)) 78, type := 78, pos := "", after := #[], guard := none },
   { dst := some 24, op := Op.binOp BinOp.shr 3 (Operand.tmp 12) (Operand.const (Value.int IntKind.i64 16)) 3, type := 3, pos := "", after := #[], guard := none },
   { dst := some 25, op := Op.convert 3 5 (Operand.tmp 24), type := 5, pos := "", after := #[], guard := none },
   { dst := some 26, op := Op.convert 5 78 (Operand.tmp 25), type := 78, pos := "", after := #[], guard := none },
   { dst := some 27, op := Op.binOp BinOp.xor 78 (Operand.tmp 23) (Operand.tmp 26) 78, type := 78, pos := "", after := #[], guard := none },
   { dst := some 23, op := Op.binOp BinOp.mul 78 (Operand.tmp 27) (Operand.const (Value.int IntKind.u32 16777619)) 78, type := 78, pos := "", after := #[], guard := none },
   { dst := some 24, op := Op.binOp BinOp.shr 3 (Operand.tmp 12) (Operand.const (Value.int IntKind.i64 8)) 3, type := 3, pos := "", after := #[], guard := none },
   { dst := some 25, op := Op.convert 3 5 (Operand.tmp 24), type := 5, pos := "", after := #[], guard := none },
   { dst := some 26, op := Op.convert 5 78 (Operand.tmp 25), type := 78, pos := "", after := #[], guard := none },
   { dst := some 27, op := Op.binOp BinOp.xor 78 (Operand.tmp 23) (Operand.tmp 26) 78, type := 78, pos := "", after := #[], guard := none },
   { dst := some 23, op := Op.binOp BinOp.mul 78 (Operand.tmp 27) (Operand.const (Value.int IntKind.u32 16777619)) 78, type := 78, pos := "", after := #[], guard := none },
   { dst := some 24, op := Op.binOp BinOp.shr 3 (Operand.tmp 12) (Operand.const (Value.int IntKind.i64 0)) 3, type := 3, pos := "", after := #[], guard := none },
   { dst := some 25, op := Op.convert 3 5 (Operand.tmp 24), type := 5, pos := "", after := #[], guard := none },
   { dst := some 26, op := Op.convert 5 78 (Operand.tmp 25), type := 78, pos := "", after := #[], guard := none },
   { dst := some 27, op := Op.binOp BinOp.xor 78 (Operand.tmp 23) (Operand.tmp 26) 78, type := 78, pos := "", after := #[], guard := none },
   { dst := some 23, op := Op.binOp BinOp.mul 78 (Operand.tmp 27) (Operand.const (Value.int IntKind.u32 16777619)) 78, type := 78, pos := "", after := #[], guard := none },
   { dst := some 28, op := Op.convert 78 3 (Operand.tmp 23), type := 3, pos := "", after := #[], guard := none },
   { dst := some 30, op := Op.binOp BinOp.and 3 (Operand.tmp 28) (Operand.tmp 18) 3, type := 3, pos := "", after := #[], guard := none },
   { dst := some 31, op := Op.indexAddr 57 (Operand.tmp 2) (Operand.tmp 30), type := 0, pos := "", after := #[], guard := none },
   { dst := some 32, op := Op.load 3 (Operand.tmp 31), type := 3, pos := "", after := #[], guard := none },
   { dst := some 33, op := Op.binOp BinOp.add 3 (Operand.tmp 32) (Operand.const (Value.int IntKind.i64 1)) 3, type := 3, pos := "", after := #[], guard := none },
   { dst := none, op := Op.store 3 (Operand.tmp 31) (Operand.tmp 33), type := 0, pos := "", after := #[], guard := none },
   { dst := some 34, op := Op.binOp BinOp.add 3 (Operand.tmp 8) (Operand.const (Value.int IntKind.i64 1)) 3, type := 3, pos := "", after := #[], guard := none },
   { dst := some 8, op := Op.move (Operand.tmp 34), type := 3, pos := "", after := #[], guard := none }] false)))))
 Code.ret))))))))
noncomputable def Th.f45 : Func := { Try.f45 with body := some Th.c45, ntmps := 36, results := #[.tmp 2, .tmp 3], tmpNames := #[] }
noncomputable def Th.F : Array Func := Try.prog.funcs.setIfInBounds 45 Th.f45
noncomputable def Th.prog : Program := { Try.prog with funcs := Th.F }
@[simp] theorem Th.ntmps45 : Th.f45.ntmps = 36 := rfl
@[simp] theorem Th.results45 : Th.f45.results = #[.tmp 2, .tmp 3] := rfl
@[simp] theorem Th.underlying78 : Th.prog.underlying 78 = some (TypeDesc.int IntKind.u32) := by kernel_rfl
@[simp] theorem Th.func52 : Th.prog.funcs[52]? = some Try.f52 := by kernel_rfl
@[simp] theorem Th.underlying57 : Th.prog.underlying 57 = some (TypeDesc.slice 3) := by kernel_rfl
@[simp] theorem Th.func47 : Th.prog.funcs[47]? = some Try.f47 := by kernel_rfl
@[simp] theorem Th.sizeOf5 : ∀ (w : World), Sem.run Th.prog (Go.sizeOf 5) w = Result.ok 1 w := by intros; kernel_rfl
@[simp] theorem Th.sizeOf3 : ∀ (w : World), Sem.run Th.prog (Go.sizeOf 3) w = Result.ok 1 w := by intros; kernel_rfl
@[simp] theorem Th.func42 : Th.prog.funcs[42]? = some Try.f42 := by kernel_rfl
@[simp] theorem Th.call42 : ∀ (args : Array Value) (w : World), Sem.run Th.prog (callFunc 42 args) w = Result.ok (Next.enter 42 args) w := by intros; kernel_rfl
@[simp] theorem Th.func11 : Th.prog.funcs[11]? = some Try.f11 := by kernel_rfl
@[simp] theorem Th.zeroValue91 : ∀ (w : World),   Sem.run Th.prog (zeroValue 91) w =     Result.ok       (Value.agg         #[Value.int IntKind.u8 0, Value.int IntKind.u8 0, Value.int IntKind.u8 0, Value.int IntKind.u8 0,           Value.int IntKind.u8 0, Value.int IntKind.u8 0])       w := by intros; kernel_rfl
@[simp] theorem Th.call49 : ∀ (args : Array Value) (w : World), Sem.run Th.prog (callFunc 49 args) w = Result.ok (Next.enter 49 args) w := by intros; kernel_rfl
@[simp] theorem Th.func37 : Th.prog.funcs[37]? = some Try.f37 := by kernel_rfl
@[simp] theorem Th.func13 : Th.prog.funcs[13]? = some Try.f13 := by kernel_rfl
@[simp] theorem Th.call35 : ∀ (args : Array Value) (w : World), Sem.run Th.prog (callFunc 35 args) w = Result.ok (Next.enter 35 args) w := by intros; kernel_rfl
@[simp] theorem Th.func70 : Th.prog.funcs[70]? = some Try.f70 := by kernel_rfl
@[simp] theorem Th.zeroValue3 : ∀ (w : World), Sem.run Th.prog (zeroValue 3) w = Result.ok (Value.int IntKind.i64 0) w := by intros; kernel_rfl
@[simp] theorem Th.func46 : Th.prog.funcs[46]? = some Try.f46 := by kernel_rfl
@[simp] theorem Th.func35 : Th.prog.funcs[35]? = some Try.f35 := by kernel_rfl
@[simp] theorem Th.func50 : Th.prog.funcs[50]? = some Try.f50 := by kernel_rfl
@[simp] theorem Th.underlying35 : Th.prog.underlying 35 = some (TypeDesc.slice 5) := by kernel_rfl
@[simp] theorem Th.runUnderlying57 : ∀ (w : World), Sem.run Th.prog (underlying 57) w = Result.ok (TypeDesc.slice 3) w := by intros; kernel_rfl
@[simp] theorem Th.underlying3 : Th.prog.underlying 3 = some (TypeDesc.int IntKind.i64) := by kernel_rfl
@[simp] theorem Th.underlying5 : Th.prog.underlying 5 = some (TypeDesc.int IntKind.u8) := by kernel_rfl
@[simp] theorem Th.zeroValue5 : ∀ (w : World), Sem.run Th.prog (zeroValue 5) w = Result.ok (Value.int IntKind.u8 0) w := by intros; kernel_rfl
@[simp] theorem Th.func43 : Th.prog.funcs[43]? = some Try.f43 := by kernel_rfl
@[simp] theorem Th.call47 : ∀ (args : Array Value) (w : World), Sem.run Th.prog (callFunc 47 args) w = Result.ok (Next.enter 47 args) w := by intros; kernel_rfl
@[simp] theorem Th.isAgg3 : ∀ (w : World), Sem.run Th.prog (isAgg 3) w = Result.ok false w := by intros; kernel_rfl
@[simp] theorem Th.underlying9 : Th.prog.underlying 9 = some TypeDesc.string := by kernel_rfl
@[simp] theorem Th.func12 : Th.prog.funcs[12]? = some Try.f12 := by kernel_rfl
@[simp] theorem Th.call44 : ∀ (args : Array Value) (w : World), Sem.run Th.prog (callFunc 44 args) w = Result.ok (Next.enter 44 args) w := by intros; kernel_rfl
@[simp] theorem Th.func53 : Th.prog.funcs[53]? = some Try.f53 := by kernel_rfl
@[simp] theorem Th.runUnderlying35 : ∀ (w : World), Sem.run Th.prog (underlying 35) w = Result.ok (TypeDesc.slice 5) w := by intros; kernel_rfl
@[simp] theorem Th.func48 : Th.prog.funcs[48]? = some Try.f48 := by kernel_rfl
@[simp] theorem Th.call50 : ∀ (args : Array Value) (w : World), Sem.run Th.prog (callFunc 50 args) w = Result.ok (Next.enter 50 args) w := by intros; kernel_rfl
@[simp] theorem Th.func44 : Th.prog.funcs[44]? = some Try.f44 := by kernel_rfl
@[simp] theorem Th.func78 : Th.prog.funcs[78]? = some Try.f78 := by kernel_rfl
@[simp] theorem Th.call53 : ∀ (args : Array Value) (w : World), Sem.run Th.prog (callFunc 53 args) w = Result.ok (Next.enter 53 args) w := by intros; kernel_rfl
@[simp] theorem Th.call45 : ∀ (args : Array Value) (w : World), Sem.run Th.prog (callFunc 45 args) w = Result.ok (Next.enter 45 args) w := by intros; kernel_rfl
@[simp] theorem Th.func79 : Th.prog.funcs[79]? = some Try.f79 := by kernel_rfl
@[simp] theorem Th.underlying91 : Th.prog.underlying 91 = some (TypeDesc.array 6 5) := by kernel_rfl
@[simp] theorem Th.func45 : Th.prog.funcs[45]? = some Th.f45 := by kernel_rfl
@[simp] theorem Th.func51 : Th.prog.funcs[51]? = some Try.f51 := by kernel_rfl
@[simp] theorem Th.func33 : Th.prog.funcs[33]? = some Try.f33 := by kernel_rfl
@[simp] theorem Th.func36 : Th.prog.funcs[36]? = some Try.f36 := by kernel_rfl
@[simp] theorem Th.func49 : Th.prog.funcs[49]? = some Try.f49 := by kernel_rfl
theorem Th.ntmps35 : type_of% Try.ntmps35 := Try.ntmps35
theorem Th.ntmps78 : type_of% Try.ntmps78 := Try.ntmps78
theorem Th.results78 : type_of% Try.results78 := Try.results78
end Go.Proofs.Ytnikfjfcbpeieaa
end
