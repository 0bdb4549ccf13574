/- sync.Mutex: Unlock; Lock by the quick way. Written by mkmu.py. -/
/- lockSlow. Written by mkmu.py. -/
/- sync.Mutex: Lock. Written by mkmu.py. -/
import Derived.Test.YtnikfjfcbpeieaaMH1
section
namespace Go.Proofs.Ytnikfjfcbpeieaa.Hk
open Go Go.Conc Go.RowKit Go.Proofs.Ytnikfjfcbpeieaa.Lk
open Go.ConcR (KK wgBlock WgAt stA smA rd wr)
open Go.ConcR.Gen
set_option linter.unusedVariables false
set_option linter.unusedSimpArgs false
theorem nm105 : (Try.f105.name == "runtime.NumGoroutine") = false := by kernel_rfl
noncomputable def c105 : Code := Try.f105.body.getD .skip
theorem body105 : Try.f105.body = some c105 := rfl
theorem nm106 : (Try.f106.name == "runtime.NumGoroutine") = false := by kernel_rfl
noncomputable def c106 : Code := Try.f106.body.getD .skip
theorem body106 : Try.f106.body = some c106 := rfl
theorem nm121 : (Try.f121.name == "runtime.NumGoroutine") = false := by kernel_rfl
noncomputable def c121 : Code := Try.f121.body.getD .skip
theorem body121 : Try.f121.body = some c121 := rfl
theorem nm122 : (Try.f122.name == "runtime.NumGoroutine") = false := by kernel_rfl
theorem q122 : (Try.prog.funcs[(base 122).fn]?).any (·.norace) = true := by kernel_rfl
noncomputable def c122 : Code := Try.f122.body.getD .skip
theorem body122 : Try.f122.body = some c122 := rfl
theorem nm126 : (Try.f126.name == "runtime.NumGoroutine") = false := by kernel_rfl
theorem q126 : (Try.prog.funcs[(base 126).fn]?).any (·.norace) = true := by kernel_rfl
noncomputable def c126 : Code := Try.f126.body.getD .skip
theorem body126 : Try.f126.body = some c126 := rfl
theorem nm128 : (Try.f128.name == "runtime.NumGoroutine") = false := by kernel_rfl
noncomputable def c128 : Code := Try.f128.body.getD .skip
theorem body128 : Try.f128.body = some c128 := rfl
theorem room82 : (Try.prog.info? 82).map (fun i => decide (i.size = 0)) = some false := by kernel_rfl
def cL : Code → Code | .seq a _ => a | c => c
noncomputable def B126 : Code := cR (cR (cR (cR (cR c126))))
noncomputable def L126 : Code := cLp (cB (cL B126))
noncomputable def E126 : Code := cR B126
section
variable {p : Pl} {n i : Nat} {W : World} {todo : List Int} {cs : List Frame}
theorem Goes.le {P : Program} {main : Bool} {R : World → World → Prop} {D : World → World → Array Event → Prop} {Stop : Goroutine → World → Prop} {n m : Nat} {g : Goroutine} {w : World} (h : Goes P main R D Stop n g w) (hm : n ≤ m) : Goes P main R D Stop m g w := by
 induction hm with
 | refl => exact h
 | step _ ih => exact ih.more
theorem Gs.fin {P : Program} {main : Bool} {R : World → World → Prop} {D : World → World → Array Event → Prop} {Stop : Goroutine → World → Prop} {F : World → Prop} (g : Wd → Goroutine) (k : ∀ wd, Gs P main R D Stop F (g wd)) : ∃ n, ∀ wd w, F w → Goes P main R D Stop n (g wd) w := by
 have key : ∀ l : List Wd, ∃ n, ∀ wd ∈ l, ∀ w, F w → Goes P main R D Stop n (g wd) w := by
  intro l
  induction l with
  | nil => exact ⟨0, by simp⟩
  | cons a l ih =>
   obtain ⟨n, h⟩ := ih
   obtain ⟨m, h'⟩ := k a
   refine ⟨n + m, fun wd hw w hF => ?_⟩
   rcases List.mem_cons.1 hw with rfl | hw
   ·exact Goes.le (h' w hF) (by omega)
   ·exact Goes.le (h wd hw w hF) (by omega)
 obtain ⟨n, h⟩ := key Wd.all
 exact ⟨n, fun wd => h wd (Wd.mem_all wd)⟩
theorem GE.lq {main : Bool} {R : World → World → Prop} {D : World → World → Array Event → Prop} {Stop : Goroutine → World → Prop} {F : World → Prop} {b : Frame} {N : Nat} {ds : List Deferred} {ρ : Rho} {k : List Item} {ops : Array Oper} {j : Nat} {rest : List Nat} {o : Oper} {x : Operand} {ad : Addr}
  (U : Rule R D F) (hc : ∀ w, F w → ∃ wd : Wd, w.cell? ad = some (.int .i32 wd.val)) (ho : ops[j]? = some o) (hop : o.op = .load 21 x) (hx : ev ρ x = some (.pointer (some ad))) (hw : wantB ops ρ o = some true) (hk : b.kind ≠ .early) (hq : (Try.prog.funcs[b.fn]?).any (·.norace) = true) (hd : o.dst.all (· < N) = true)
  (h : ∀ wd : Wd, GE Try.prog main R D Stop F b cs N ds (ρ.put o.dst (.int .i32 wd.val)) (.inRegion ops rest :: k)) : GE Try.prog main R D Stop F b cs N ds ρ (.inRegion ops (j :: rest) :: k) := fun T hT hl => by
 obtain ⟨n, hn⟩ := Gs.fin (fun wd => G (b.at (Act.put ⟨T, ds⟩ o.dst (.int .i32 wd.val)) (.inRegion ops rest :: k)) cs) fun wd => GE.put hd hT hl (h wd)
 refine ⟨n + 1, fun w hF => Goes.step rfl fun w₁ h₁ => ?_⟩
 have hF₁ := U.rely _ _ hF h₁
 obtain ⟨wd, e⟩ := hc w₁ hF₁
 rw [stepG_loadQ ho (hl.want hw) hk hop (hl.ev hx) e hq]
 exact ⟨U.quiet _ hF₁, hn wd w₁ hF₁⟩
theorem FW.word {w : World} (h : FW p n i W w) : ∃ wd : Wd, w.cell? (mA p.Mu) = some (.int .i32 wd.val) := let ⟨_, _, h⟩ := h.live.mu; ⟨_, h.cellSt⟩
theorem FW.cell {w : World} (h : FW p n i W w) : ∃ v, w.cell? (mA p.Mu) = some v := let ⟨_, _, h⟩ := h.live.mu; ⟨_, h.cellSt⟩
variable {b₀ : Frame} {a₀ : Act} {ops₀ : Array Oper} {i₀ : Nat} {rest₀ : List Nat} {k₀ : List Item}
def BehindLock (p : Pl) (n i : Nat) (W : World) (todo : List Int) (g : Goroutine) : Prop :=
 ∀ (d : Nat) (c : List Int), c.length = n → Gs Try.prog false (EnvH p n i none true) (DoH p n i none true) (AtH p n i d todo.tail .ur (inc c (todo.headD 0))) (FC p n i W c) g
set_option maxRecDepth 100000 in
set_option maxHeartbeats 8000000 in
theorem slow_end (A : p.Ok) (hT : BehindLock p n i W todo (G (b₀.at (a₀.put ((ops₀[i₀]?).bind (·.dst)) (.tuple #[])) (.inRegion ops₀ rest₀ :: k₀)) cs)) (d : Nat) : GA p n i W todo d .le (base 126) (b₀.at a₀ (.inRegion ops₀ (i₀ :: rest₀) :: k₀) :: cs) 139 [] [(0, .pointer (some (mA p.Mu)))] [.code E126] := by
 have U : Rule (EnvH p n i none false) (DoH p n i none false) (FW p n i W) := FW.rule
 have hcell : ∀ w, FW p n i W w → ∃ v, w.cell? (mA p.Mu) = some v := fun w hw => hw.cell
 simp only [E126, B126, c126, Try.f126, Option.getD_some, cR, cB, cLp, cL]
 repeat (first
  | refine GE.seq U ?_
  | refine GE.region _ U rfl ?_
  | (refine GE.cond true U rfl ?_; simp only [if_true, if_false, Bool.false_eq_true, ↓reduceIte]))
 refine st_le rfl rfl rfl (by k_ne) rfl fun d' hd' => ?_
 repeat (first
  | refine GE.cv U rfl rfl rfl (by k_ne) rfl rfl (v := .pointer (some (mA p.Mu))) (fun w hw => by obtain ⟨v, hc⟩ := hcell w hw; exact run_convert_to_unsafe (P := Try.prog) Try.underlying151 Try.underlying124 room82 hc) (fun w hw => by obtain ⟨v, hc⟩ := hcell w hw; exact events_convert_to_unsafe (P := Try.prog) Try.underlying151 Try.underlying124 room82 hc _) ?_
  | refine GE.regionEnd U ?_
  | refine GE.region _ U rfl ?_
  | refine GE.mv U rfl rfl rfl (by k_ne) rfl rfl ?_)
 refine st_la rfl rfl rfl rfl (by k_ne) rfl fun d'' hd'' c hc => ?_
 have U : Rule (EnvH p n i none true) (DoH p n i none true) (FC p n i W (c)) := FC.rule
 repeat (first
  | refine GE.regionEnd U ?_)
 exact GE.end0 U rfl Try.func126 rfl (hT d'' c hc)
theorem Gs.leaveD {P : Program} {main : Bool} {R : World → World → Prop} {D : World → World → Array Event → Prop} {Stop : Goroutine → World → Prop} {F : World → Prop} {b : Frame} {a : Act} {todo : List Item} {fn : Func} {c : Frame} (U : Rule R D F) (hn : b.kind = .deferred) (hd : a.defers = []) (hf : P.funcs[b.fn]? = some fn) (hr : fn.results = #[]) (hc : c.mode = .returning)
  (h : Gs P main R D Stop F (G c cs)) : Gs P main R D Stop F (G { b.at a todo with mode := .returning } (c :: cs)) :=
 Gs.go U rfl (fun w _ => stepG_leave_deferred (v := .tuple #[]) hn hd hf (by simp [results, hr]) (by simp [results, hr]) hc) h
abbrev GsA (p : Pl) (n i : Nat) (W : World) (todo : List Int) (d : Nat) (ph : Ph) (g : Goroutine) : Prop := Gs Try.prog false (EnvH p n i none false) (DoH p n i none false) (AtH p n i d todo ph []) (FW p n i W) g
abbrev GsR (p : Pl) (n i : Nat) (W : World) (g : Goroutine) : Prop := Gs Try.prog false (EnvH p n i none false) (DoH p n i none false) (SRH p n i) (FW p n i W) g
set_option maxRecDepth 100000 in
set_option maxHeartbeats 8000000 in
theorem uslow (A : p.Ok) (hT : ∀ d, GsA p n i W todo d .ue (G (b₀.at (a₀.put ((ops₀[i₀]?).bind (·.dst)) (.tuple #[])) (.inRegion ops₀ rest₀ :: k₀)) cs)) (d : Nat) (ph' : Ph) (wn : Wd) (h : (wn = .w2 ∧ ph' = .ue) ∨ (wn = .w8 ∧ ph' = .uc) ∨ (wn = .w12 ∧ ph' = .us true)) :
  GsA p n i W todo d ph' (G ((base 128).at ⟨#[.pointer (some (mA p.Mu)), .int .i32 wn.val] ++ Array.replicate 41 undef, []⟩ [.code c128]) (b₀.at a₀ (.inRegion ops₀ (i₀ :: rest₀) :: k₀) :: cs)) := by
 have U : Rule (EnvH p n i none false) (DoH p n i none false) (FW p n i W) := FW.rule
 have hcell : ∀ w, FW p n i W w → ∃ v, w.cell? (mA p.Mu) = some v := fun w hw => hw.cell
 refine (?_ : GA p n i W todo d ph' (base 128) (b₀.at a₀ (.inRegion ops₀ (i₀ :: rest₀) :: k₀) :: cs) 43 [] [(0, .pointer (some (mA p.Mu))), (1, .int .i32 wn.val)] [.code c128]) _ (by simp) (looks2 _ _ _)
 simp only [c128, Try.f128, Option.getD_some]
 rcases h with ⟨rfl, rfl⟩ | ⟨rfl, rfl⟩ | ⟨rfl, rfl⟩
 ·simp only [Wd.val]
  repeat (first
   | refine GE.loop U ?_
   | refine GE.seq U ?_
   | refine GE.block U ?_
   | refine GE.skip U ?_
   | refine GE.regionEnd U ?_
   | refine GE.region _ U rfl ?_
   | (refine GE.cond true U rfl ?_; simp only [if_true, if_false, Bool.false_eq_true, ↓reduceIte])
   | (refine GE.cond false U rfl ?_; simp only [if_true, if_false, Bool.false_eq_true, ↓reduceIte])
   | refine GE.unwanted U rfl rfl rfl ?_
   | refine GE.mv U rfl rfl rfl (by k_ne) rfl rfl ?_
   | refine GE.as U rfl rfl rfl (by k_ne) rfl rfl ?_
   | refine GE.pick U rfl rfl rfl (by k_ne) rfl rfl rfl ?_
   | refine GE.bin U rfl rfl rfl (by k_ne) rfl rfl rfl rfl ?_)
  exact GE.ret0 U rfl Try.func128 rfl (hT d)
 ·simp only [Wd.val]
  repeat (first
   | refine GE.loop U ?_
   | refine GE.seq U ?_
   | refine GE.block U ?_
   | refine GE.skip U ?_
   | refine GE.regionEnd U ?_
   | refine GE.region _ U rfl ?_
   | (refine GE.cond true U rfl ?_; simp only [if_true, if_false, Bool.false_eq_true, ↓reduceIte])
   | (refine GE.cond false U rfl ?_; simp only [if_true, if_false, Bool.false_eq_true, ↓reduceIte])
   | refine GE.mv U rfl rfl rfl (by k_ne) rfl rfl ?_
   | refine GE.as U rfl rfl rfl (by k_ne) rfl rfl ?_
   | refine GE.pick U rfl rfl rfl (by k_ne) rfl rfl rfl ?_
   | refine GE.nil U rfl rfl rfl (by k_ne) rfl rfl ?_
   | refine GE.bin U rfl rfl rfl (by k_ne) rfl rfl rfl rfl ?_
   | refine GE.fa U rfl rfl rfl (by k_ne) rfl rfl (fun w hw => by go_simp; (try rfl)) (fun w hw => by simp [go_sem]) ?_)
  refine st_uc A rfl rfl rfl rfl rfl rfl (by k_ne) rfl fun d1 hd1 => ?_
  repeat (first
   | refine GE.seq U ?_
   | refine GE.regionEnd U ?_
   | refine GE.region _ U rfl ?_
   | (refine GE.cond true U rfl ?_; simp only [if_true, if_false, Bool.false_eq_true, ↓reduceIte])
   | refine GE.mv U rfl rfl rfl (by k_ne) rfl rfl ?_
   | refine GE.nil U rfl rfl rfl (by k_ne) rfl rfl ?_
   | refine GE.fa U rfl rfl rfl (by k_ne) rfl rfl (fun w hw => by go_simp; (try rfl)) (fun w hw => by simp [go_sem]) ?_)
  refine st_us A rfl rfl rfl rfl (by k_ne) rfl fun d2 hd2 => ?_
  repeat (first
   | refine GE.regionEnd U ?_)
  exact GE.ret0 U rfl Try.func128 rfl (hT d2)
 ·simp only [Wd.val]
  repeat (first
   | refine GE.seq U ?_
   | refine GE.skip U ?_
   | refine GE.regionEnd U ?_
   | refine GE.region _ U rfl ?_
   | (refine GE.cond false U rfl ?_; simp only [if_true, if_false, Bool.false_eq_true, ↓reduceIte])
   | refine GE.mv U rfl rfl rfl (by k_ne) rfl rfl ?_
   | refine GE.nil U rfl rfl rfl (by k_ne) rfl rfl ?_
   | refine GE.bin U rfl rfl rfl (by k_ne) rfl rfl rfl rfl ?_
   | refine GE.fa U rfl rfl rfl (by k_ne) rfl rfl (fun w hw => by go_simp; (try rfl)) (fun w hw => by simp [go_sem]) ?_)
  refine st_us A rfl rfl rfl rfl (by k_ne) rfl fun d2 hd2 => ?_
  repeat (first
   | refine GE.regionEnd U ?_)
  exact GE.end0 U rfl Try.func128 rfl (hT d2)
set_option maxRecDepth 100000 in
set_option maxHeartbeats 8000000 in
theorem unlock_inner (A : p.Ok) {c : List Int}
  (h0 : todo ≠ [] → ∀ d, GsA p n i W todo d .al (G (b₀.at (a₀.put ((ops₀[i₀]?).bind (·.dst)) (.tuple #[])) (.inRegion ops₀ rest₀ :: k₀)) cs))
  (h1 : todo = [] → GsR p n i W (G (b₀.at (a₀.put ((ops₀[i₀]?).bind (·.dst)) (.tuple #[])) (.inRegion ops₀ rest₀ :: k₀)) cs)) (d : Nat) :
  Gs Try.prog false (EnvH p n i none true) (DoH p n i none true) (AtH p n i d todo .ur c) (FC p n i W c) (G ((base 122).at ⟨#[.pointer (some (mA p.Mu))] ++ Array.replicate 20 undef, []⟩ [.code c122]) (b₀.at a₀ (.inRegion ops₀ (i₀ :: rest₀) :: k₀) :: cs)) := by
 have ending : ∀ d ρ, GA p n i W todo d .ue (base 122) (b₀.at a₀ (.inRegion ops₀ (i₀ :: rest₀) :: k₀) :: cs) 21 [] ρ [.code (cR (cR (cR c122)))] := by
  intro d ρ
  have U : Rule (EnvH p n i none false) (DoH p n i none false) (FW p n i W) := FW.rule
  simp only [c122, Try.f122, Option.getD_some, cR]
  repeat (first
   | refine GE.region _ U rfl ?_)
  refine st_ue rfl rfl rfl (by k_ne) rfl (fun hne d1 hd1 => ?_) fun he => ?_
  repeat (first
   | refine GE.regionEnd U ?_)
  ·exact GE.end0 U rfl Try.func122 rfl (h0 hne d1)
  repeat (first
   | refine GE.regionEnd U ?_)
  ·exact GE.end0 U rfl Try.func122 rfl (h1 he)
 have U : Rule (EnvH p n i none true) (DoH p n i none true) (FC p n i W c) := FC.rule
 have hcell : ∀ w, FC p n i W c w → ∃ v, w.cell? (mA p.Mu) = some v := fun w hw => hw.cell
 refine (?_ : GC p n i W todo d c c (base 122) (b₀.at a₀ (.inRegion ops₀ (i₀ :: rest₀) :: k₀) :: cs) 21 [] [(0, .pointer (some (mA p.Mu)))] [.code c122]) _ (by simp) (looks1 _ _)
 simp only [c122, Try.f122, Option.getD_some, cR] at ending ⊢
 repeat (first
  | refine GE.seq U ?_
  | refine GE.region _ U rfl ?_
  | (refine GE.cond true U rfl ?_; simp only [if_true, if_false, Bool.false_eq_true, ↓reduceIte])
  | refine GE.mv U rfl rfl rfl (by k_ne) rfl rfl ?_
  | refine GE.nil U rfl rfl rfl (by k_ne) rfl rfl ?_
  | refine GE.fa U rfl rfl rfl (by k_ne) rfl rfl (fun w hw => by go_simp; (try rfl)) (fun w hw => by simp [go_sem]) ?_)
 refine GE.lq (ad := mA p.Mu) U (fun w hw => hw.toFW.word) rfl rfl rfl rfl (by k_ne) q122 rfl fun wd => ?_
 repeat (first
  | refine GE.cv U rfl rfl rfl (by k_ne) rfl rfl (v := .pointer (some (mA p.Mu))) (fun w hw => by obtain ⟨v, hc⟩ := hcell w hw; exact run_convert_to_unsafe (P := Try.prog) Try.underlying151 Try.underlying124 room82 hc) (fun w hw => by obtain ⟨v, hc⟩ := hcell w hw; exact events_convert_to_unsafe (P := Try.prog) Try.underlying151 Try.underlying124 room82 hc _) ?_
  | refine GE.seq U ?_
  | refine GE.regionEnd U ?_
  | refine GE.region _ U rfl ?_
  | refine GE.mv U rfl rfl rfl (by k_ne) rfl rfl ?_)
 refine st_ur rfl rfl rfl rfl (by k_ne) rfl fun d1 hd1 => ?_
 have U : Rule (EnvH p n i none false) (DoH p n i none false) (FW p n i W) := FW.rule
 repeat (first
  | refine GE.regionEnd U ?_
  | refine GE.region _ U rfl ?_)
 refine st_dis (.inr ⟨rfl, rfl⟩) rfl rfl rfl (by k_ne) rfl fun d2 hd2 => ?_
 repeat (first
  | refine GE.seq U ?_
  | refine GE.regionEnd U ?_
  | refine GE.region _ U rfl ?_
  | refine GE.mv U rfl rfl rfl (by k_ne) rfl rfl ?_
  | refine GE.nil U rfl rfl rfl (by k_ne) rfl rfl ?_
  | refine GE.fa U rfl rfl rfl (by k_ne) rfl rfl (fun w hw => by go_simp; (try rfl)) (fun w hw => by simp [go_sem]) ?_)
 refine st_u0 A rfl rfl rfl rfl rfl (by k_ne) rfl fun d3 hd3 ph' wn hph => ?_
 rcases hph with ⟨rfl, rfl⟩ | hph
 ·simp only [Wd.val]
  repeat (first | exact ending _ _ | (first
   | refine GE.seq U ?_ | refine GE.skip U ?_ | refine GE.regionEnd U ?_ | refine GE.region _ U rfl ?_ | (refine GE.cond false U rfl ?_; simp only [if_true, if_false, Bool.false_eq_true, ↓reduceIte])
   | refine GE.mv U rfl rfl rfl (by k_ne) rfl rfl ?_ | refine GE.as U rfl rfl rfl (by k_ne) rfl rfl ?_ | refine GE.bin U rfl rfl rfl (by k_ne) rfl rfl rfl rfl ?_))
 ·refine GE.as U rfl rfl rfl (by k_ne) rfl rfl ?_
  refine GE.regionEnd U ?_
  refine GE.seq U ?_
  refine GE.seq U ?_
  refine GE.region _ U rfl ?_
  refine GE.mv U rfl rfl rfl (by k_ne) rfl rfl ?_
  refine GE.bin U rfl rfl rfl (by k_ne) rfl rfl rfl rfl ?_
  refine GE.regionEnd U ?_
  refine GE.cond true U (by rcases hph with ⟨rfl, rfl⟩ | ⟨rfl, rfl⟩ | ⟨rfl, rfl⟩ <;> rfl) ?_
  simp only [if_true]
  refine GE.region _ U rfl ?_
  refine GE.mv U rfl rfl rfl (by k_ne) rfl rfl ?_
  refine GE.mv U rfl rfl rfl (by k_ne) rfl rfl ?_
  refine GE.call #[.pointer (some (mA p.Mu)), .int .i32 wn.val] U rfl rfl rfl (by k_ne) Try.func128 nm128 body128 (fun e he => by simp [he (.tmp 17) _ rfl, he (.tmp 18) _ rfl]) fun T1 hT1 hl1 => ?_
  refine uslow A (fun d => GE.put (N := 21) rfl hT1 hl1 (GE.regionEnd U (ending d _))) _ _ _ hph
set_option maxRecDepth 100000 in
set_option maxHeartbeats 8000000 in
theorem unlock_walk (A : p.Ok) {c : List Int} {cf : Frame} (hcm : cf.mode = .returning)
  (h0 : todo ≠ [] → ∀ d, GsA p n i W todo d .al (G cf cs)) (h1 : todo = [] → GsR p n i W (G cf cs)) (d : Nat) :
  Gs Try.prog false (EnvH p n i none true) (DoH p n i none true) (AtH p n i d todo .ur c) (FC p n i W c) (G ((baseD 106).at ⟨#[.pointer (some (mA p.Mu))] ++ Array.replicate 5 undef, []⟩ [.code c106]) (cf :: cs)) := by
 have U : Rule (EnvH p n i none true) (DoH p n i none true) (FC p n i W c) := FC.rule
 have U1 : Rule (EnvH p n i none false) (DoH p n i none false) (FW p n i W) := FW.rule
 refine (?_ : GC p n i W todo d c c (baseD 106) (cf :: cs) 6 [] [(0, .pointer (some (mA p.Mu)))] [.code c106]) _ (by simp) (looks1 _ _)
 simp only [c106, Try.f106, Option.getD_some]
 repeat (first
  | refine GE.region _ U rfl ?_
  | refine GE.mv U rfl rfl rfl (by k_ne) rfl rfl ?_
  | refine GE.nil U rfl rfl rfl (by k_ne) rfl rfl ?_
  | refine GE.fa U rfl rfl rfl (by k_ne) rfl rfl (fun w hw => by go_simp; (try rfl)) (fun w hw => by simp [go_sem]) ?_)
 refine GE.call #[.pointer (some (mA p.Mu))] U rfl rfl rfl (by k_ne) Try.func122 nm122 body122 (fun e he => by simp [he (.tmp 4) _ rfl]) fun T1 hT1 hl1 => ?_
 refine unlock_inner A (fun hne d => ?_) (fun he => ?_) d
 ·exact GE.put (N := 6) rfl hT1 hl1 (GE.regionEnd U1 fun T hT hl => Gs.end_ U1 (Gs.leaveD U1 rfl rfl Try.func106 rfl hcm (h0 hne d)))
 ·exact GE.put (N := 6) rfl hT1 hl1 (GE.regionEnd U1 fun T hT hl => Gs.end_ U1 (Gs.leaveD U1 rfl rfl Try.func106 rfl hcm (h1 he)))
end
end Go.Proofs.Ytnikfjfcbpeieaa.Hk
end
section
namespace Go.Proofs.Ytnikfjfcbpeieaa.Hk
open Go Go.Conc Go.RowKit Go.Proofs.Ytnikfjfcbpeieaa.Lk
open Go.ConcR (KK wgBlock WgAt stA smA rd wr)
open Go.ConcR.Gen
set_option linter.unusedVariables false
set_option linter.unusedSimpArgs false
def cT : Code → Code | .cond _ a _ => a | c => c
def cE : Code → Code | .cond _ _ a => a | c => c
noncomputable def X126 : Code := cR (cR (cR (cR (cR (cR (cR (cB L126)))))))
noncomputable def Z126 : Code := cR (cR (cR (cT X126)))
noncomputable def M126 : Code := cE X126
section
variable {p : Pl} {n i : Nat} {W : World} {todo : List Int} {cs : List Frame} {b₀ : Frame} {a₀ : Act} {ops₀ : Array Oper} {i₀ : Nat} {rest₀ : List Nat} {k₀ : List Item}
def okA_ (aw sv : Bool) (o : Wd) (wst : Int) : Prop := (aw = false → sv = false ∧ wst = 0 ∧ (o = .w0 ∨ o = .w1 ∨ o = .w2 ∨ o = .w12)) ∧ (aw = true → o = .w2 ∨ o = .w3)
abbrev rhoH (p : Pl) (aw sv : Bool) (o : Wd) (it : Nat) (wst : Int) : Rho := [(0, .pointer (some (mA p.Mu))), (2, .int .i64 wst), (3, .bool sv), (4, .bool aw), (5, .int .i64 it), (6, .int .i32 o.val)]
def HeadAt (p : Pl) (n i : Nat) (W : World) (todo : List Int) (C : List Frame) (d : Nat) : Prop :=
 ∀ (aw sv : Bool) (o : Wd) (it : Nat) (wst : Int), okA_ aw sv o wst → it ≤ 4 → GA p n i W todo d (Hk.hd aw sv o it) (base 126) C 139 [] (rhoH p aw sv o it wst) [.inLoop L126, .inBlock 0, .code E126]
def HeadC (p : Pl) (n i : Nat) (W : World) (todo : List Int) (C : List Frame) (d : Nat) : Prop :=
 ∀ (aw sv : Bool) (o : Wd) (it : Nat) (wst : Int), okA_ aw sv o wst → it ≤ 4 → GA p n i W todo d (Hk.hd aw sv o it) (base 126) C 139 [] (rhoH p aw sv o it wst) [.code L126, .inLoop L126, .inBlock 0, .code E126]
theorem wrap_it {it : Nat} (h : it < 4) : IntKind.i64.wrap ((it : Int) + 1) = ((it + 1 : Nat) : Int) := by
 rcases (show it = 0 ∨ it = 1 ∨ it = 2 ∨ it = 3 by omega) with rfl | rfl | rfl | rfl <;> decide
set_option maxRecDepth 100000 in
set_option maxHeartbeats 8000000 in
theorem slow_miss {C : List Frame} {d : Nat} (ih : ∀ d', d' < d → HeadAt p n i W todo C d') {aw sv : Bool} {it : Nat} {wst : Int} (hit : it ≤ 4) (hok : aw = false → sv = false ∧ wst = 0) :
  GA p n i W todo d (.r3 aw sv it) (base 126) C 139 [] [(0, .pointer (some (mA p.Mu))), (2, .int .i64 wst), (3, .bool sv), (4, .bool aw), (5, .int .i64 it)] [.code M126, .inBlock 1, .inLoop L126, .inBlock 0, .code E126] := by
 have U : Rule (EnvH p n i none false) (DoH p n i none false) (FW p n i W) := FW.rule
 simp only [M126, X126, c126, Try.f126, Option.getD_some, cR, cB, cLp, cL, cT, cE, L126, B126]
 repeat (first
  | refine GE.region _ U rfl ?_
  | refine GE.mv U rfl rfl rfl (by k_ne) rfl rfl ?_
  | refine GE.nil U rfl rfl rfl (by k_ne) rfl rfl ?_
  | refine GE.fa U rfl rfl rfl (by k_ne) rfl rfl (fun w hw => by go_simp; (try rfl)) (fun w hw => by simp [go_sem]) ?_)
 refine st_rd (.inr (.inr rfl)) rfl rfl rfl rfl (by k_ne) q126 rfl fun d1 hd1 wd h1 h2 => ?_
 repeat (first
  | refine GE.inBlock U ?_
  | refine GE.regionEnd U ?_
  | refine GE.as U rfl rfl rfl (by k_ne) rfl rfl ?_)
 refine GE.to (rhoH p aw sv wd it wst) ⟨rfl, rfl, rfl, rfl, rfl, rfl, trivial⟩ ?_
 exact ih d1 hd1 aw sv wd it wst ⟨fun e => ⟨(hok e).1, (hok e).2, h1 e⟩, h2⟩ hit
set_option maxRecDepth 100000 in
set_option maxHeartbeats 8000000 in
theorem slow_sleep (A : p.Ok) (hT : BehindLock p n i W todo (G (b₀.at (a₀.put ((ops₀[i₀]?).bind (·.dst)) (.tuple #[])) (.inRegion ops₀ rest₀ :: k₀)) cs)) {d : Nat} (ih : ∀ d', d' < d → HeadAt p n i W todo (b₀.at a₀ (.inRegion ops₀ (i₀ :: rest₀) :: k₀) :: cs) d') {sv : Bool} {wst : Int} {lf : Bool} :
  GA p n i W todo d (.s1 sv) (base 126) (b₀.at a₀ (.inRegion ops₀ (i₀ :: rest₀) :: k₀) :: cs) 139 [] [(0, .pointer (some (mA p.Mu))), (2, .int .i64 wst), (3, .bool sv), (8, .bool lf)] [.code Z126, .inBlock 1, .inLoop L126, .inBlock 0, .code E126] := by
 have U : Rule (EnvH p n i none false) (DoH p n i none false) (FW p n i W) := FW.rule
 have rest : ∀ (d' : Nat), d' < d → ∀ s : Bool, GA p n i W todo d' (.r2 s) (base 126) (b₀.at a₀ (.inRegion ops₀ (i₀ :: rest₀) :: k₀) :: cs) 139 [] [(0, .pointer (some (mA p.Mu))), (2, .int .i64 wst), (3, .bool s)] [.code (cR (cR Z126)), .inBlock 1, .inLoop L126, .inBlock 0, .code E126] := by
  intro d' hd' s
  have hse := fun d => slow_end (p := p) A hT d
  simp only [Z126, X126, c126, Try.f126, Option.getD_some, cR, cB, cLp, cL, cT, cE, L126, B126, E126] at hse ⊢
  repeat (first
   | refine GE.seq U ?_
   | refine GE.region _ U rfl ?_
   | refine GE.mv U rfl rfl rfl (by k_ne) rfl rfl ?_
   | refine GE.nil U rfl rfl rfl (by k_ne) rfl rfl ?_
   | refine GE.fa U rfl rfl rfl (by k_ne) rfl rfl (fun w hw => by go_simp; (try rfl)) (fun w hw => by simp [go_sem]) ?_)
  refine st_r2 rfl rfl rfl rfl (by k_ne) q126 rfl (fun d1 hd1 => ?_) (fun d1 hd1 => ?_) (fun d1 hd1 => ?_) fun d1 hd1 => ?_
  ·repeat (first
    | refine GE.seq U ?_
    | refine GE.skip U ?_
    | refine GE.inBlock U ?_
    | refine GE.regionEnd U ?_
    | refine GE.region _ U rfl ?_
    | (refine GE.cond false U rfl ?_; simp only [if_true, if_false, Bool.false_eq_true, ↓reduceIte])
    | refine GE.mv U rfl rfl rfl (by k_ne) rfl rfl ?_
    | refine GE.as U rfl rfl rfl (by k_ne) rfl rfl ?_
    | refine GE.bin U rfl rfl rfl (by k_ne) rfl rfl rfl rfl ?_)
   refine GE.to (rhoH p true s .w2 0 wst) ⟨rfl, rfl, rfl, rfl, rfl, rfl, trivial⟩ ?_
   exact ih d1 (by omega) true s .w2 0 wst ⟨by simp, by simp⟩ (by omega)
  ·repeat (first
    | refine GE.seq U ?_
    | refine GE.skip U ?_
    | refine GE.inBlock U ?_
    | refine GE.regionEnd U ?_
    | refine GE.region _ U rfl ?_
    | (refine GE.cond false U rfl ?_; simp only [if_true, if_false, Bool.false_eq_true, ↓reduceIte])
    | refine GE.mv U rfl rfl rfl (by k_ne) rfl rfl ?_
    | refine GE.as U rfl rfl rfl (by k_ne) rfl rfl ?_
    | refine GE.bin U rfl rfl rfl (by k_ne) rfl rfl rfl rfl ?_)
   refine GE.to (rhoH p true s .w3 0 wst) ⟨rfl, rfl, rfl, rfl, rfl, rfl, trivial⟩ ?_
   exact ih d1 (by omega) true s .w3 0 wst ⟨by simp, by simp⟩ (by omega)
  ·rcases s with _ | _
   ·repeat (first
     | refine GE.seq U ?_
     | refine GE.skip U ?_
     | refine GE.regionEnd U ?_
     | refine GE.region _ U rfl ?_
     | (refine GE.cond true U rfl ?_; simp only [if_true, if_false, Bool.false_eq_true, ↓reduceIte])
     | (refine GE.cond false U rfl ?_; simp only [if_true, if_false, Bool.false_eq_true, ↓reduceIte])
     | refine GE.unwanted U rfl rfl rfl ?_
     | refine GE.mv U rfl rfl rfl (by k_ne) rfl rfl ?_
     | refine GE.as U rfl rfl rfl (by k_ne) rfl rfl ?_
     | refine GE.pick U rfl rfl rfl (by k_ne) rfl rfl rfl ?_
     | refine GE.not U rfl rfl rfl (by k_ne) rfl rfl ?_
     | refine GE.nil U rfl rfl rfl (by k_ne) rfl rfl ?_
     | refine GE.bin U rfl rfl rfl (by k_ne) rfl rfl rfl rfl ?_
     | refine GE.fa U rfl rfl rfl (by k_ne) rfl rfl (fun w hw => by go_simp; (try rfl)) (fun w hw => by simp [go_sem]) ?_)
    refine st_a1 (s7 := false) (dl := -11) rfl A rfl rfl rfl rfl rfl (by k_ne) rfl fun d2 hd2 v => ?_
    repeat (first
     | exact GE.to [(0, .pointer (some (mA p.Mu)))] ⟨rfl, trivial⟩ (hse d2)
     | refine GE.regionEnd U ?_
     | refine GE.exit U rfl ?_)
   ·repeat (first
     | refine GE.seq U ?_
     | refine GE.skip U ?_
     | refine GE.regionEnd U ?_
     | refine GE.region _ U rfl ?_
     | (refine GE.cond true U rfl ?_; simp only [if_true, if_false, Bool.false_eq_true, ↓reduceIte])
     | (refine GE.cond false U rfl ?_; simp only [if_true, if_false, Bool.false_eq_true, ↓reduceIte])
     | refine GE.mv U rfl rfl rfl (by k_ne) rfl rfl ?_
     | refine GE.as U rfl rfl rfl (by k_ne) rfl rfl ?_
     | refine GE.pick U rfl rfl rfl (by k_ne) rfl rfl rfl ?_
     | refine GE.not U rfl rfl rfl (by k_ne) rfl rfl ?_
     | refine GE.nil U rfl rfl rfl (by k_ne) rfl rfl ?_
     | refine GE.bin U rfl rfl rfl (by k_ne) rfl rfl rfl rfl ?_
     | refine GE.fa U rfl rfl rfl (by k_ne) rfl rfl (fun w hw => by go_simp; (try rfl)) (fun w hw => by simp [go_sem]) ?_)
    refine st_a1 (s7 := false) (dl := -11) rfl A rfl rfl rfl rfl rfl (by k_ne) rfl fun d2 hd2 v => ?_
    repeat (first
     | exact GE.to [(0, .pointer (some (mA p.Mu)))] ⟨rfl, trivial⟩ (hse d2)
     | refine GE.regionEnd U ?_
     | refine GE.exit U rfl ?_)
  ·rcases s with _ | _
   ·repeat (first
     | refine GE.seq U ?_
     | refine GE.skip U ?_
     | refine GE.regionEnd U ?_
     | refine GE.region _ U rfl ?_
     | (refine GE.cond true U rfl ?_; simp only [if_true, if_false, Bool.false_eq_true, ↓reduceIte])
     | (refine GE.cond false U rfl ?_; simp only [if_true, if_false, Bool.false_eq_true, ↓reduceIte])
     | refine GE.unwanted U rfl rfl rfl ?_
     | refine GE.mv U rfl rfl rfl (by k_ne) rfl rfl ?_
     | refine GE.as U rfl rfl rfl (by k_ne) rfl rfl ?_
     | refine GE.pick U rfl rfl rfl (by k_ne) rfl rfl rfl ?_
     | refine GE.not U rfl rfl rfl (by k_ne) rfl rfl ?_
     | refine GE.nil U rfl rfl rfl (by k_ne) rfl rfl ?_
     | refine GE.bin U rfl rfl rfl (by k_ne) rfl rfl rfl rfl ?_
     | refine GE.fa U rfl rfl rfl (by k_ne) rfl rfl (fun w hw => by go_simp; (try rfl)) (fun w hw => by simp [go_sem]) ?_)
    refine st_a1 (s7 := false) (dl := -11) rfl A rfl rfl rfl rfl rfl (by k_ne) rfl fun d2 hd2 v => ?_
    repeat (first
     | exact GE.to [(0, .pointer (some (mA p.Mu)))] ⟨rfl, trivial⟩ (hse d2)
     | refine GE.regionEnd U ?_
     | refine GE.exit U rfl ?_)
   ·repeat (first
     | refine GE.seq U ?_
     | refine GE.skip U ?_
     | refine GE.regionEnd U ?_
     | refine GE.region _ U rfl ?_
     | (refine GE.cond true U rfl ?_; simp only [if_true, if_false, Bool.false_eq_true, ↓reduceIte])
     | (refine GE.cond false U rfl ?_; simp only [if_true, if_false, Bool.false_eq_true, ↓reduceIte])
     | refine GE.mv U rfl rfl rfl (by k_ne) rfl rfl ?_
     | refine GE.as U rfl rfl rfl (by k_ne) rfl rfl ?_
     | refine GE.pick U rfl rfl rfl (by k_ne) rfl rfl rfl ?_
     | refine GE.not U rfl rfl rfl (by k_ne) rfl rfl ?_
     | refine GE.nil U rfl rfl rfl (by k_ne) rfl rfl ?_
     | refine GE.bin U rfl rfl rfl (by k_ne) rfl rfl rfl rfl ?_
     | refine GE.fa U rfl rfl rfl (by k_ne) rfl rfl (fun w hw => by go_simp; (try rfl)) (fun w hw => by simp [go_sem]) ?_)
    refine st_a1 (s7 := true) (dl := -7) rfl A rfl rfl rfl rfl rfl (by k_ne) rfl fun d2 hd2 v => ?_
    repeat (first
     | exact GE.to [(0, .pointer (some (mA p.Mu)))] ⟨rfl, trivial⟩ (hse d2)
     | refine GE.regionEnd U ?_
     | refine GE.exit U rfl ?_)
 simp only [Z126, X126, c126, Try.f126, Option.getD_some, cR, cB, cLp, cL, cT, cE, L126, B126, E126] at rest ⊢
 repeat (first
  | refine GE.seq U ?_
  | refine GE.region _ U rfl ?_
  | refine GE.mv U rfl rfl rfl (by k_ne) rfl rfl ?_
  | refine GE.nil U rfl rfl rfl (by k_ne) rfl rfl ?_
  | refine GE.fa U rfl rfl rfl (by k_ne) rfl rfl (fun w hw => by go_simp; (try rfl)) (fun w hw => by simp [go_sem]) ?_)
 refine st_s1 A rfl rfl rfl rfl (by k_ne) rfl fun d1 hd1 => ?_
 rcases sv with _ | _
 ·simp only [Bool.false_eq_true, ↓reduceIte]
  repeat (first
   | refine GE.seq U ?_
   | refine GE.regionEnd U ?_
   | refine GE.region _ U rfl ?_
   | refine GE.mv U rfl rfl rfl (by k_ne) rfl rfl ?_)
  refine st_t2 (fun t => decide (IntKind.i64.wrap (t - wst) > 1000000)) A rfl rfl rfl (by k_ne) rfl fun d2 hd2 t => ?_
  repeat (first
   | exact GE.to [(0, .pointer (some (mA p.Mu))), (2, .int .i64 wst), (3, .bool (decide (IntKind.i64.wrap (t - wst) > 1000000)))] ⟨rfl, rfl, rfl, trivial⟩ (rest d2 (by omega) _)
   | refine GE.regionEnd U ?_
   | refine GE.mv U rfl rfl rfl (by k_ne) rfl rfl ?_
   | refine GE.as U rfl rfl rfl (by k_ne) rfl rfl ?_
   | refine GE.pick U rfl rfl rfl (by k_ne) rfl rfl rfl ?_
   | refine GE.bin U rfl rfl rfl (by k_ne) rfl rfl rfl rfl ?_)
 ·simp only [↓reduceIte]
  repeat (first
   | exact GE.to [(0, .pointer (some (mA p.Mu))), (2, .int .i64 wst), (3, .bool true)] ⟨rfl, rfl, rfl, trivial⟩ (rest d1 (by omega) true)
   | refine GE.seq U ?_
   | refine GE.regionEnd U ?_
   | refine GE.region _ U rfl ?_
   | refine GE.unwanted U rfl rfl rfl ?_
   | refine GE.mv U rfl rfl rfl (by k_ne) rfl rfl ?_
   | refine GE.as U rfl rfl rfl (by k_ne) rfl rfl ?_
   | refine GE.pick U rfl rfl rfl (by k_ne) rfl rfl rfl ?_)
set_option maxRecDepth 100000 in
set_option maxHeartbeats 8000000 in
theorem slow_headC (A : p.Ok) (hT : BehindLock p n i W todo (G (b₀.at (a₀.put ((ops₀[i₀]?).bind (·.dst)) (.tuple #[])) (.inRegion ops₀ rest₀ :: k₀)) cs)) (d : Nat) (ih : ∀ d', d' < d → HeadAt p n i W todo (b₀.at a₀ (.inRegion ops₀ (i₀ :: rest₀) :: k₀) :: cs) d') : HeadC p n i W todo (b₀.at a₀ (.inRegion ops₀ (i₀ :: rest₀) :: k₀) :: cs) d := by
 have U : Rule (EnvH p n i none false) (DoH p n i none false) (FW p n i W) := FW.rule
 have hse := fun d => slow_end (p := p) A hT d
 have hsl : ∀ d', d' < d → ∀ {sv : Bool} {wst : Int} {lf : Bool}, _ := fun d' hd' => @fun sv wst lf => slow_sleep (p := p) A hT (d := d') (fun d'' h => ih d'' (by omega)) (sv := sv) (wst := wst) (lf := lf)
 have hms : ∀ d', d' < d → ∀ {aw sv : Bool} {it : Nat} {wst : Int}, it ≤ 4 → (aw = false → sv = false ∧ wst = 0) → _ := fun d' hd' => @fun aw sv it wst h1 h2 => slow_miss (p := p) (n := n) (i := i) (W := W) (todo := todo) (d := d') (fun d'' h => ih d'' (by omega)) (aw := aw) (sv := sv) (wst := wst) h1 h2
 intro aw sv o it wst hok hit
 simp only [M126, Z126, X126, c126, Try.f126, Option.getD_some, cR, cB, cLp, cL, cT, cE, L126, B126, E126] at hse hsl hms ⊢
 cases aw with
 | false =>
  obtain ⟨rfl, rfl, ho⟩ := hok.1 rfl
  rcases ho with rfl | rfl | rfl | rfl
  ·simp only [Hk.hd]
   repeat (first
    | refine GE.seq U ?_
    | refine GE.block U ?_
    | refine GE.skip U ?_
    | refine GE.regionEnd U ?_
    | refine GE.region _ U rfl ?_
    | (refine GE.cond true U rfl ?_; simp only [if_true, if_false, Bool.false_eq_true, ↓reduceIte])
    | (refine GE.cond false U rfl ?_; simp only [if_true, if_false, Bool.false_eq_true, ↓reduceIte])
    | refine GE.unwanted U rfl rfl rfl ?_
    | refine GE.mv U rfl rfl rfl (by k_ne) rfl rfl ?_
    | refine GE.as U rfl rfl rfl (by k_ne) rfl rfl ?_
    | refine GE.pick U rfl rfl rfl (by k_ne) rfl rfl rfl ?_
    | refine GE.nil U rfl rfl rfl (by k_ne) rfl rfl ?_
    | refine GE.bin U rfl rfl rfl (by k_ne) rfl rfl rfl rfl ?_
    | refine GE.fa U rfl rfl rfl (by k_ne) rfl rfl (fun w hw => by go_simp; (try rfl)) (fun w hw => by simp [go_sem]) ?_)
   refine st_c2 A (wn := .w1) (fun m => .n0) rfl rfl rfl rfl rfl rfl (by k_ne) rfl (fun d2 hd2 => ?_) fun d2 hd2 => ?_
   ·repeat (first
     | exact GE.to [(0, .pointer (some (mA p.Mu)))] ⟨rfl, trivial⟩ (hse d2)
     | refine GE.seq U ?_
     | refine GE.regionEnd U ?_
     | refine GE.region _ U rfl ?_
     | (refine GE.cond true U rfl ?_; simp only [if_true, if_false, Bool.false_eq_true, ↓reduceIte])
     | refine GE.exit U rfl ?_
     | refine GE.mv U rfl rfl rfl (by k_ne) rfl rfl ?_
     | refine GE.bin U rfl rfl rfl (by k_ne) rfl rfl rfl rfl ?_)
   ·repeat (first
     | exact GE.to [(0, .pointer (some (mA p.Mu))), (2, .int .i64 0), (3, .bool false), (4, .bool false), (5, .int .i64 it)] ⟨rfl, rfl, rfl, rfl, rfl, trivial⟩ (hms d2 (by omega) hit (fun _ => ⟨rfl, rfl⟩))
     | refine GE.regionEnd U ?_
     | (refine GE.cond false U rfl ?_; simp only [if_true, if_false, Bool.false_eq_true, ↓reduceIte]))
  ·simp only [Hk.hd]
   repeat (first
    | refine GE.seq U ?_
    | refine GE.block U ?_
    | refine GE.region _ U rfl ?_
    | refine GE.mv U rfl rfl rfl (by k_ne) rfl rfl ?_
    | refine GE.bin U rfl rfl rfl (by k_ne) rfl rfl rfl rfl ?_)
   refine st_sq hit A rfl rfl rfl rfl (by k_ne) rfl (fun d1 hd1 => ?_) (fun h4 d1 hd1 => ?_)
   ·repeat (first
     | refine GE.seq U ?_
     | refine GE.skip U ?_
     | refine GE.regionEnd U ?_
     | refine GE.region _ U rfl ?_
     | (refine GE.cond true U rfl ?_; simp only [if_true, if_false, Bool.false_eq_true, ↓reduceIte])
     | (refine GE.cond false U rfl ?_; simp only [if_true, if_false, Bool.false_eq_true, ↓reduceIte])
     | refine GE.unwanted U rfl rfl rfl ?_
     | refine GE.mv U rfl rfl rfl (by k_ne) rfl rfl ?_
     | refine GE.as U rfl rfl rfl (by k_ne) rfl rfl ?_
     | refine GE.pick U rfl rfl rfl (by k_ne) rfl rfl rfl ?_
     | refine GE.nil U rfl rfl rfl (by k_ne) rfl rfl ?_
     | refine GE.bin U rfl rfl rfl (by k_ne) rfl rfl rfl rfl ?_
     | refine GE.fa U rfl rfl rfl (by k_ne) rfl rfl (fun w hw => by go_simp; (try rfl)) (fun w hw => by simp [go_sem]) ?_)
    refine st_c2 A (wn := .w9) (fun m => .n1) rfl rfl rfl rfl rfl rfl (by k_ne) rfl (fun d2 hd2 => ?_) fun d2 hd2 => ?_
    ·repeat (first
      | refine GE.seq U ?_
      | refine GE.skip U ?_
      | refine GE.regionEnd U ?_
      | refine GE.region _ U rfl ?_
      | (refine GE.cond true U rfl ?_; simp only [if_true, if_false, Bool.false_eq_true, ↓reduceIte])
      | (refine GE.cond false U rfl ?_; simp only [if_true, if_false, Bool.false_eq_true, ↓reduceIte])
      | refine GE.mv U rfl rfl rfl (by k_ne) rfl rfl ?_
      | refine GE.as U rfl rfl rfl (by k_ne) rfl rfl ?_
      | refine GE.bin U rfl rfl rfl (by k_ne) rfl rfl rfl rfl ?_)
     refine st_t1 A rfl rfl rfl (by k_ne) rfl fun d3 hd3 t => ?_
     repeat (first
      | exact GE.to [(0, .pointer (some (mA p.Mu))), (2, .int .i64 t), (3, .bool false), (8, .bool false)] ⟨rfl, rfl, rfl, rfl, trivial⟩ (hsl d3 (by omega))
      | refine GE.regionEnd U ?_
      | refine GE.as U rfl rfl rfl (by k_ne) rfl rfl ?_)
    ·repeat (first
      | exact GE.to [(0, .pointer (some (mA p.Mu))), (2, .int .i64 0), (3, .bool false), (4, .bool false), (5, .int .i64 it)] ⟨rfl, rfl, rfl, rfl, rfl, trivial⟩ (hms d2 (by omega) hit (fun _ => ⟨rfl, rfl⟩))
      | refine GE.regionEnd U ?_
      | (refine GE.cond false U rfl ?_; simp only [if_true, if_false, Bool.false_eq_true, ↓reduceIte]))
   ·repeat (first
     | refine GE.seq U ?_
     | refine GE.skip U ?_
     | refine GE.regionEnd U ?_
     | refine GE.region _ U rfl ?_
     | (refine GE.cond true U rfl ?_; simp only [if_true, if_false, Bool.false_eq_true, ↓reduceIte])
     | (refine GE.cond false U rfl ?_; simp only [if_true, if_false, Bool.false_eq_true, ↓reduceIte])
     | refine GE.unwanted U rfl rfl rfl ?_
     | refine GE.mv U rfl rfl rfl (by k_ne) rfl rfl ?_
     | refine GE.as U rfl rfl rfl (by k_ne) rfl rfl ?_
     | refine GE.pick U rfl rfl rfl (by k_ne) rfl rfl rfl ?_
     | refine GE.not U rfl rfl rfl (by k_ne) rfl rfl ?_
     | refine GE.nil U rfl rfl rfl (by k_ne) rfl rfl ?_
     | refine GE.bin U rfl rfl rfl (by k_ne) rfl rfl rfl rfl ?_
     | refine GE.fa U rfl rfl rfl (by k_ne) rfl rfl (fun w hw => by go_simp; (try rfl)) (fun w hw => by simp [go_sem]) ?_
     | refine GE.pure U rfl rfl rfl (by k_ne) rfl Try.func132 x132_n x132_b x132_x x132_f ?_)
    refine st_rd (.inr (.inl ⟨it, rfl, h4, rfl⟩)) rfl rfl rfl rfl (by k_ne) q126 rfl fun d2 hd2 wd h1 h2 => ?_
    repeat (first
     | refine GE.regionEnd U ?_
     | refine GE.exit U rfl ?_
     | refine GE.as U rfl rfl rfl (by k_ne) rfl rfl ?_)
    refine GE.to (rhoH p false false wd (it + 1) 0) ⟨rfl, rfl, rfl, rfl, congrArg (fun z => some (Value.int .i64 z)) (wrap_it h4), rfl, trivial⟩ ?_
    exact ih d2 (by omega) false false wd (it + 1) 0 ⟨fun _ => ⟨rfl, rfl, h1 rfl⟩, by simp⟩ (by omega)
  ·simp only [Hk.hd]
   repeat (first
    | refine GE.seq U ?_
    | refine GE.block U ?_
    | refine GE.skip U ?_
    | refine GE.regionEnd U ?_
    | refine GE.region _ U rfl ?_
    | (refine GE.cond true U rfl ?_; simp only [if_true, if_false, Bool.false_eq_true, ↓reduceIte])
    | (refine GE.cond false U rfl ?_; simp only [if_true, if_false, Bool.false_eq_true, ↓reduceIte])
    | refine GE.unwanted U rfl rfl rfl ?_
    | refine GE.mv U rfl rfl rfl (by k_ne) rfl rfl ?_
    | refine GE.as U rfl rfl rfl (by k_ne) rfl rfl ?_
    | refine GE.pick U rfl rfl rfl (by k_ne) rfl rfl rfl ?_
    | refine GE.nil U rfl rfl rfl (by k_ne) rfl rfl ?_
    | refine GE.bin U rfl rfl rfl (by k_ne) rfl rfl rfl rfl ?_
    | refine GE.fa U rfl rfl rfl (by k_ne) rfl rfl (fun w hw => by go_simp; (try rfl)) (fun w hw => by simp [go_sem]) ?_)
   refine st_c2 A (wn := .w3) (fun m => .n2) rfl rfl rfl rfl rfl rfl (by k_ne) rfl (fun d2 hd2 => ?_) fun d2 hd2 => ?_
   ·repeat (first
     | exact GE.to [(0, .pointer (some (mA p.Mu)))] ⟨rfl, trivial⟩ (hse d2)
     | refine GE.seq U ?_
     | refine GE.regionEnd U ?_
     | refine GE.region _ U rfl ?_
     | (refine GE.cond true U rfl ?_; simp only [if_true, if_false, Bool.false_eq_true, ↓reduceIte])
     | refine GE.exit U rfl ?_
     | refine GE.mv U rfl rfl rfl (by k_ne) rfl rfl ?_
     | refine GE.bin U rfl rfl rfl (by k_ne) rfl rfl rfl rfl ?_)
   ·repeat (first
     | exact GE.to [(0, .pointer (some (mA p.Mu))), (2, .int .i64 0), (3, .bool false), (4, .bool false), (5, .int .i64 it)] ⟨rfl, rfl, rfl, rfl, rfl, trivial⟩ (hms d2 (by omega) hit (fun _ => ⟨rfl, rfl⟩))
     | refine GE.regionEnd U ?_
     | (refine GE.cond false U rfl ?_; simp only [if_true, if_false, Bool.false_eq_true, ↓reduceIte]))
  ·simp only [Hk.hd]
   repeat (first
    | refine GE.seq U ?_
    | refine GE.block U ?_
    | refine GE.skip U ?_
    | refine GE.regionEnd U ?_
    | refine GE.region _ U rfl ?_
    | (refine GE.cond true U rfl ?_; simp only [if_true, if_false, Bool.false_eq_true, ↓reduceIte])
    | (refine GE.cond false U rfl ?_; simp only [if_true, if_false, Bool.false_eq_true, ↓reduceIte])
    | refine GE.unwanted U rfl rfl rfl ?_
    | refine GE.mv U rfl rfl rfl (by k_ne) rfl rfl ?_
    | refine GE.as U rfl rfl rfl (by k_ne) rfl rfl ?_
    | refine GE.pick U rfl rfl rfl (by k_ne) rfl rfl rfl ?_
    | refine GE.nil U rfl rfl rfl (by k_ne) rfl rfl ?_
    | refine GE.bin U rfl rfl rfl (by k_ne) rfl rfl rfl rfl ?_
    | refine GE.fa U rfl rfl rfl (by k_ne) rfl rfl (fun w hw => by go_simp; (try rfl)) (fun w hw => by simp [go_sem]) ?_)
   refine st_c2 A (wn := .w20) (fun m => .n12) rfl rfl rfl rfl rfl rfl (by k_ne) rfl (fun d2 hd2 => ?_) fun d2 hd2 => ?_
   ·repeat (first
     | refine GE.seq U ?_
     | refine GE.skip U ?_
     | refine GE.regionEnd U ?_
     | refine GE.region _ U rfl ?_
     | (refine GE.cond true U rfl ?_; simp only [if_true, if_false, Bool.false_eq_true, ↓reduceIte])
     | (refine GE.cond false U rfl ?_; simp only [if_true, if_false, Bool.false_eq_true, ↓reduceIte])
     | refine GE.mv U rfl rfl rfl (by k_ne) rfl rfl ?_
     | refine GE.as U rfl rfl rfl (by k_ne) rfl rfl ?_
     | refine GE.bin U rfl rfl rfl (by k_ne) rfl rfl rfl rfl ?_)
    refine st_t1 A rfl rfl rfl (by k_ne) rfl fun d3 hd3 t => ?_
    repeat (first
     | exact GE.to [(0, .pointer (some (mA p.Mu))), (2, .int .i64 t), (3, .bool false), (8, .bool false)] ⟨rfl, rfl, rfl, rfl, trivial⟩ (hsl d3 (by omega))
     | refine GE.regionEnd U ?_
     | refine GE.as U rfl rfl rfl (by k_ne) rfl rfl ?_)
   ·repeat (first
     | exact GE.to [(0, .pointer (some (mA p.Mu))), (2, .int .i64 0), (3, .bool false), (4, .bool false), (5, .int .i64 it)] ⟨rfl, rfl, rfl, rfl, rfl, trivial⟩ (hms d2 (by omega) hit (fun _ => ⟨rfl, rfl⟩))
     | refine GE.regionEnd U ?_
     | (refine GE.cond false U rfl ?_; simp only [if_true, if_false, Bool.false_eq_true, ↓reduceIte]))
 | true =>
  rcases hok.2 rfl with rfl | rfl
  ·simp only [Hk.hd]
   rcases sv with _ | _
   ·repeat (first
     | refine GE.seq U ?_
     | refine GE.block U ?_
     | refine GE.skip U ?_
     | refine GE.regionEnd U ?_
     | refine GE.region _ U rfl ?_
     | (refine GE.cond true U rfl ?_; simp only [if_true, if_false, Bool.false_eq_true, ↓reduceIte])
     | (refine GE.cond false U rfl ?_; simp only [if_true, if_false, Bool.false_eq_true, ↓reduceIte])
     | refine GE.unwanted U rfl rfl rfl ?_
     | refine GE.mv U rfl rfl rfl (by k_ne) rfl rfl ?_
     | refine GE.as U rfl rfl rfl (by k_ne) rfl rfl ?_
     | refine GE.pick U rfl rfl rfl (by k_ne) rfl rfl rfl ?_
     | refine GE.nil U rfl rfl rfl (by k_ne) rfl rfl ?_
     | refine GE.bin U rfl rfl rfl (by k_ne) rfl rfl rfl rfl ?_
     | refine GE.fa U rfl rfl rfl (by k_ne) rfl rfl (fun w hw => by go_simp; (try rfl)) (fun w hw => by simp [go_sem]) ?_)
    refine st_c2 A (wn := .w1) (fun m => .v2) rfl rfl rfl rfl rfl rfl (by k_ne) rfl (fun d2 hd2 => ?_) fun d2 hd2 => ?_
    ·repeat (first
      | exact GE.to [(0, .pointer (some (mA p.Mu)))] ⟨rfl, trivial⟩ (hse d2)
      | refine GE.seq U ?_
      | refine GE.regionEnd U ?_
      | refine GE.region _ U rfl ?_
      | (refine GE.cond true U rfl ?_; simp only [if_true, if_false, Bool.false_eq_true, ↓reduceIte])
      | refine GE.exit U rfl ?_
      | refine GE.mv U rfl rfl rfl (by k_ne) rfl rfl ?_
      | refine GE.bin U rfl rfl rfl (by k_ne) rfl rfl rfl rfl ?_)
    ·repeat (first
      | exact GE.to [(0, .pointer (some (mA p.Mu))), (2, .int .i64 wst), (3, .bool false), (4, .bool true), (5, .int .i64 it)] ⟨rfl, rfl, rfl, rfl, rfl, trivial⟩ (hms d2 (by omega) hit (by simp))
      | refine GE.regionEnd U ?_
      | (refine GE.cond false U rfl ?_; simp only [if_true, if_false, Bool.false_eq_true, ↓reduceIte]))
   ·repeat (first
     | refine GE.seq U ?_
     | refine GE.block U ?_
     | refine GE.skip U ?_
     | refine GE.regionEnd U ?_
     | refine GE.region _ U rfl ?_
     | (refine GE.cond true U rfl ?_; simp only [if_true, if_false, Bool.false_eq_true, ↓reduceIte])
     | (refine GE.cond false U rfl ?_; simp only [if_true, if_false, Bool.false_eq_true, ↓reduceIte])
     | refine GE.unwanted U rfl rfl rfl ?_
     | refine GE.mv U rfl rfl rfl (by k_ne) rfl rfl ?_
     | refine GE.as U rfl rfl rfl (by k_ne) rfl rfl ?_
     | refine GE.pick U rfl rfl rfl (by k_ne) rfl rfl rfl ?_
     | refine GE.nil U rfl rfl rfl (by k_ne) rfl rfl ?_
     | refine GE.bin U rfl rfl rfl (by k_ne) rfl rfl rfl rfl ?_
     | refine GE.fa U rfl rfl rfl (by k_ne) rfl rfl (fun w hw => by go_simp; (try rfl)) (fun w hw => by simp [go_sem]) ?_)
    refine st_c2 A (wn := .w1) (fun m => .v2) rfl rfl rfl rfl rfl rfl (by k_ne) rfl (fun d2 hd2 => ?_) fun d2 hd2 => ?_
    ·repeat (first
      | exact GE.to [(0, .pointer (some (mA p.Mu)))] ⟨rfl, trivial⟩ (hse d2)
      | refine GE.seq U ?_
      | refine GE.regionEnd U ?_
      | refine GE.region _ U rfl ?_
      | (refine GE.cond true U rfl ?_; simp only [if_true, if_false, Bool.false_eq_true, ↓reduceIte])
      | refine GE.exit U rfl ?_
      | refine GE.mv U rfl rfl rfl (by k_ne) rfl rfl ?_
      | refine GE.bin U rfl rfl rfl (by k_ne) rfl rfl rfl rfl ?_)
    ·repeat (first
      | exact GE.to [(0, .pointer (some (mA p.Mu))), (2, .int .i64 wst), (3, .bool true), (4, .bool true), (5, .int .i64 it)] ⟨rfl, rfl, rfl, rfl, rfl, trivial⟩ (hms d2 (by omega) hit (by simp))
      | refine GE.regionEnd U ?_
      | (refine GE.cond false U rfl ?_; simp only [if_true, if_false, Bool.false_eq_true, ↓reduceIte]))
  ·simp only [Hk.hd]
   rcases sv with _ | _
   ·repeat (first
     | refine GE.seq U ?_
     | refine GE.block U ?_
     | refine GE.region _ U rfl ?_
     | refine GE.mv U rfl rfl rfl (by k_ne) rfl rfl ?_
     | refine GE.bin U rfl rfl rfl (by k_ne) rfl rfl rfl rfl ?_)
    refine st_sq hit A rfl rfl rfl rfl (by k_ne) rfl (fun d1 hd1 => ?_) (fun h4 d1 hd1 => ?_)
    ·by_cases hw : wst = 0
     ·subst hw
      repeat (first
       | refine GE.seq U ?_
       | refine GE.skip U ?_
       | refine GE.regionEnd U ?_
       | refine GE.region _ U rfl ?_
       | (refine GE.cond true U rfl ?_; simp only [if_true, if_false, Bool.false_eq_true, ↓reduceIte])
       | (refine GE.cond false U rfl ?_; simp only [if_true, if_false, Bool.false_eq_true, ↓reduceIte])
       | refine GE.unwanted U rfl rfl rfl ?_
       | refine GE.mv U rfl rfl rfl (by k_ne) rfl rfl ?_
       | refine GE.as U rfl rfl rfl (by k_ne) rfl rfl ?_
       | refine GE.pick U rfl rfl rfl (by k_ne) rfl rfl rfl ?_
       | refine GE.nil U rfl rfl rfl (by k_ne) rfl rfl ?_
       | refine GE.bin U rfl rfl rfl (by k_ne) rfl rfl rfl rfl ?_
       | refine GE.fa U rfl rfl rfl (by k_ne) rfl rfl (fun w hw => by go_simp; (try rfl)) (fun w hw => by simp [go_sem]) ?_)
      refine st_c2 A (wn := .w9) (fun m => .v3) rfl rfl rfl rfl rfl rfl (by k_ne) rfl (fun d2 hd2 => ?_) fun d2 hd2 => ?_
      ·repeat (first
        | refine GE.seq U ?_
        | refine GE.skip U ?_
        | refine GE.regionEnd U ?_
        | refine GE.region _ U rfl ?_
        | (refine GE.cond true U rfl ?_; simp only [if_true, if_false, Bool.false_eq_true, ↓reduceIte])
        | (refine GE.cond false U rfl ?_; simp only [if_true, if_false, Bool.false_eq_true, ↓reduceIte])
        | refine GE.mv U rfl rfl rfl (by k_ne) rfl rfl ?_
        | refine GE.as U rfl rfl rfl (by k_ne) rfl rfl ?_
        | refine GE.bin U rfl rfl rfl (by k_ne) rfl rfl rfl rfl ?_)
       refine st_t1 A rfl rfl rfl (by k_ne) rfl fun d3 hd3 t => ?_
       repeat (first
        | exact GE.to [(0, .pointer (some (mA p.Mu))), (2, .int .i64 t), (3, .bool false), (8, .bool false)] ⟨rfl, rfl, rfl, rfl, trivial⟩ (hsl d3 (by omega))
        | refine GE.regionEnd U ?_
        | refine GE.as U rfl rfl rfl (by k_ne) rfl rfl ?_)
      ·repeat (first
        | exact GE.to [(0, .pointer (some (mA p.Mu))), (2, .int .i64 0), (3, .bool false), (4, .bool true), (5, .int .i64 it)] ⟨rfl, rfl, rfl, rfl, rfl, trivial⟩ (hms d2 (by omega) hit (by simp))
        | refine GE.regionEnd U ?_
        | (refine GE.cond false U rfl ?_; simp only [if_true, if_false, Bool.false_eq_true, ↓reduceIte]))
     ·repeat (first
       | refine GE.seq U ?_
       | refine GE.skip U ?_
       | refine GE.regionEnd U ?_
       | refine GE.region _ U rfl ?_
       | (refine GE.cond true U rfl ?_; simp only [if_true, if_false, Bool.false_eq_true, ↓reduceIte])
       | (refine GE.cond false U rfl ?_; simp only [if_true, if_false, Bool.false_eq_true, ↓reduceIte])
       | refine GE.unwanted U rfl rfl rfl ?_
       | refine GE.mv U rfl rfl rfl (by k_ne) rfl rfl ?_
       | refine GE.as U rfl rfl rfl (by k_ne) rfl rfl ?_
       | refine GE.pick U rfl rfl rfl (by k_ne) rfl rfl rfl ?_
       | refine GE.nil U rfl rfl rfl (by k_ne) rfl rfl ?_
       | refine GE.bin U rfl rfl rfl (by k_ne) rfl rfl rfl rfl ?_
       | refine GE.fa U rfl rfl rfl (by k_ne) rfl rfl (fun w hw => by go_simp; (try rfl)) (fun w hw => by simp [go_sem]) ?_)
      refine st_c2 A (wn := .w9) (fun m => .v3') rfl rfl rfl rfl rfl rfl (by k_ne) rfl (fun d2 hd2 => ?_) fun d2 hd2 => ?_
      ·repeat (first
        | refine GE.seq U ?_
        | refine GE.skip U ?_
        | refine GE.regionEnd U ?_
        | refine GE.region _ U rfl ?_
        | (refine GE.cond true U rfl ?_; simp only [if_true, if_false, Bool.false_eq_true, ↓reduceIte])
        | (refine GE.cond false U rfl ?_; simp only [if_true, if_false, Bool.false_eq_true, ↓reduceIte])
        | refine GE.mv U rfl rfl rfl (by k_ne) rfl rfl ?_
        | refine GE.as U rfl rfl rfl (by k_ne) rfl rfl ?_
        | refine GE.bin U rfl rfl rfl (by k_ne) rfl rfl rfl rfl ?_)
       refine GE.cond false U (by show some (Value.bool (decide (wst = 0))) = some (Value.bool false); simp [hw]) ?_
       simp only [Bool.false_eq_true, ↓reduceIte]
       repeat (first
        | exact GE.to [(0, .pointer (some (mA p.Mu))), (2, .int .i64 wst), (3, .bool false), (8, .bool _)] ⟨rfl, rfl, rfl, rfl, trivial⟩ (hsl d2 (by omega))
        | refine GE.skip U ?_)
      ·repeat (first
        | exact GE.to [(0, .pointer (some (mA p.Mu))), (2, .int .i64 wst), (3, .bool false), (4, .bool true), (5, .int .i64 it)] ⟨rfl, rfl, rfl, rfl, rfl, trivial⟩ (hms d2 (by omega) hit (by simp))
        | refine GE.regionEnd U ?_
        | (refine GE.cond false U rfl ?_; simp only [if_true, if_false, Bool.false_eq_true, ↓reduceIte]))
    ·repeat (first
      | refine GE.seq U ?_
      | refine GE.skip U ?_
      | refine GE.regionEnd U ?_
      | refine GE.region _ U rfl ?_
      | (refine GE.cond true U rfl ?_; simp only [if_true, if_false, Bool.false_eq_true, ↓reduceIte])
      | (refine GE.cond false U rfl ?_; simp only [if_true, if_false, Bool.false_eq_true, ↓reduceIte])
      | refine GE.unwanted U rfl rfl rfl ?_
      | refine GE.mv U rfl rfl rfl (by k_ne) rfl rfl ?_
      | refine GE.as U rfl rfl rfl (by k_ne) rfl rfl ?_
      | refine GE.pick U rfl rfl rfl (by k_ne) rfl rfl rfl ?_
      | refine GE.not U rfl rfl rfl (by k_ne) rfl rfl ?_
      | refine GE.nil U rfl rfl rfl (by k_ne) rfl rfl ?_
      | refine GE.bin U rfl rfl rfl (by k_ne) rfl rfl rfl rfl ?_
      | refine GE.fa U rfl rfl rfl (by k_ne) rfl rfl (fun w hw => by go_simp; (try rfl)) (fun w hw => by simp [go_sem]) ?_
      | refine GE.pure U rfl rfl rfl (by k_ne) rfl Try.func132 x132_n x132_b x132_x x132_f ?_)
     refine st_rd (.inr (.inl ⟨it, rfl, h4, rfl⟩)) rfl rfl rfl rfl (by k_ne) q126 rfl fun d2 hd2 wd h1 h2 => ?_
     repeat (first
      | refine GE.regionEnd U ?_
      | refine GE.exit U rfl ?_
      | refine GE.as U rfl rfl rfl (by k_ne) rfl rfl ?_)
     refine GE.to (rhoH p true false wd (it + 1) wst) ⟨rfl, rfl, rfl, rfl, congrArg (fun z => some (Value.int .i64 z)) (wrap_it h4), rfl, trivial⟩ ?_
     exact ih d2 (by omega) true false wd (it + 1) wst ⟨by simp, h2⟩ (by omega)
   ·repeat (first
     | refine GE.seq U ?_
     | refine GE.block U ?_
     | refine GE.region _ U rfl ?_
     | refine GE.mv U rfl rfl rfl (by k_ne) rfl rfl ?_
     | refine GE.bin U rfl rfl rfl (by k_ne) rfl rfl rfl rfl ?_)
    refine st_sq hit A rfl rfl rfl rfl (by k_ne) rfl (fun d1 hd1 => ?_) (fun h4 d1 hd1 => ?_)
    ·by_cases hw : wst = 0
     ·subst hw
      repeat (first
       | refine GE.seq U ?_
       | refine GE.skip U ?_
       | refine GE.regionEnd U ?_
       | refine GE.region _ U rfl ?_
       | (refine GE.cond true U rfl ?_; simp only [if_true, if_false, Bool.false_eq_true, ↓reduceIte])
       | (refine GE.cond false U rfl ?_; simp only [if_true, if_false, Bool.false_eq_true, ↓reduceIte])
       | refine GE.mv U rfl rfl rfl (by k_ne) rfl rfl ?_
       | refine GE.as U rfl rfl rfl (by k_ne) rfl rfl ?_
       | refine GE.pick U rfl rfl rfl (by k_ne) rfl rfl rfl ?_
       | refine GE.nil U rfl rfl rfl (by k_ne) rfl rfl ?_
       | refine GE.bin U rfl rfl rfl (by k_ne) rfl rfl rfl rfl ?_
       | refine GE.fa U rfl rfl rfl (by k_ne) rfl rfl (fun w hw => by go_simp; (try rfl)) (fun w hw => by simp [go_sem]) ?_)
      refine st_c2 A (wn := .w13) (fun m => .v3) rfl rfl rfl rfl rfl rfl (by k_ne) rfl (fun d2 hd2 => ?_) fun d2 hd2 => ?_
      ·repeat (first
        | refine GE.seq U ?_
        | refine GE.skip U ?_
        | refine GE.regionEnd U ?_
        | refine GE.region _ U rfl ?_
        | (refine GE.cond true U rfl ?_; simp only [if_true, if_false, Bool.false_eq_true, ↓reduceIte])
        | (refine GE.cond false U rfl ?_; simp only [if_true, if_false, Bool.false_eq_true, ↓reduceIte])
        | refine GE.mv U rfl rfl rfl (by k_ne) rfl rfl ?_
        | refine GE.as U rfl rfl rfl (by k_ne) rfl rfl ?_
        | refine GE.bin U rfl rfl rfl (by k_ne) rfl rfl rfl rfl ?_)
       refine st_t1 A rfl rfl rfl (by k_ne) rfl fun d3 hd3 t => ?_
       repeat (first
        | exact GE.to [(0, .pointer (some (mA p.Mu))), (2, .int .i64 t), (3, .bool true), (8, .bool false)] ⟨rfl, rfl, rfl, rfl, trivial⟩ (hsl d3 (by omega))
        | refine GE.regionEnd U ?_
        | refine GE.as U rfl rfl rfl (by k_ne) rfl rfl ?_)
      ·repeat (first
        | exact GE.to [(0, .pointer (some (mA p.Mu))), (2, .int .i64 0), (3, .bool true), (4, .bool true), (5, .int .i64 it)] ⟨rfl, rfl, rfl, rfl, rfl, trivial⟩ (hms d2 (by omega) hit (by simp))
        | refine GE.regionEnd U ?_
        | (refine GE.cond false U rfl ?_; simp only [if_true, if_false, Bool.false_eq_true, ↓reduceIte]))
     ·repeat (first
       | refine GE.seq U ?_
       | refine GE.skip U ?_
       | refine GE.regionEnd U ?_
       | refine GE.region _ U rfl ?_
       | (refine GE.cond true U rfl ?_; simp only [if_true, if_false, Bool.false_eq_true, ↓reduceIte])
       | (refine GE.cond false U rfl ?_; simp only [if_true, if_false, Bool.false_eq_true, ↓reduceIte])
       | refine GE.mv U rfl rfl rfl (by k_ne) rfl rfl ?_
       | refine GE.as U rfl rfl rfl (by k_ne) rfl rfl ?_
       | refine GE.pick U rfl rfl rfl (by k_ne) rfl rfl rfl ?_
       | refine GE.nil U rfl rfl rfl (by k_ne) rfl rfl ?_
       | refine GE.bin U rfl rfl rfl (by k_ne) rfl rfl rfl rfl ?_
       | refine GE.fa U rfl rfl rfl (by k_ne) rfl rfl (fun w hw => by go_simp; (try rfl)) (fun w hw => by simp [go_sem]) ?_)
      refine st_c2 A (wn := .w13) (fun m => .v3') rfl rfl rfl rfl rfl rfl (by k_ne) rfl (fun d2 hd2 => ?_) fun d2 hd2 => ?_
      ·repeat (first
        | refine GE.seq U ?_
        | refine GE.skip U ?_
        | refine GE.regionEnd U ?_
        | refine GE.region _ U rfl ?_
        | (refine GE.cond true U rfl ?_; simp only [if_true, if_false, Bool.false_eq_true, ↓reduceIte])
        | (refine GE.cond false U rfl ?_; simp only [if_true, if_false, Bool.false_eq_true, ↓reduceIte])
        | refine GE.mv U rfl rfl rfl (by k_ne) rfl rfl ?_
        | refine GE.as U rfl rfl rfl (by k_ne) rfl rfl ?_
        | refine GE.bin U rfl rfl rfl (by k_ne) rfl rfl rfl rfl ?_)
       refine GE.cond false U (by show some (Value.bool (decide (wst = 0))) = some (Value.bool false); simp [hw]) ?_
       simp only [Bool.false_eq_true, ↓reduceIte]
       repeat (first
        | exact GE.to [(0, .pointer (some (mA p.Mu))), (2, .int .i64 wst), (3, .bool true), (8, .bool _)] ⟨rfl, rfl, rfl, rfl, trivial⟩ (hsl d2 (by omega))
        | refine GE.skip U ?_)
      ·repeat (first
        | exact GE.to [(0, .pointer (some (mA p.Mu))), (2, .int .i64 wst), (3, .bool true), (4, .bool true), (5, .int .i64 it)] ⟨rfl, rfl, rfl, rfl, rfl, trivial⟩ (hms d2 (by omega) hit (by simp))
        | refine GE.regionEnd U ?_
        | (refine GE.cond false U rfl ?_; simp only [if_true, if_false, Bool.false_eq_true, ↓reduceIte]))
    ·repeat (first
      | refine GE.seq U ?_
      | refine GE.skip U ?_
      | refine GE.regionEnd U ?_
      | refine GE.region _ U rfl ?_
      | (refine GE.cond true U rfl ?_; simp only [if_true, if_false, Bool.false_eq_true, ↓reduceIte])
      | (refine GE.cond false U rfl ?_; simp only [if_true, if_false, Bool.false_eq_true, ↓reduceIte])
      | refine GE.unwanted U rfl rfl rfl ?_
      | refine GE.mv U rfl rfl rfl (by k_ne) rfl rfl ?_
      | refine GE.as U rfl rfl rfl (by k_ne) rfl rfl ?_
      | refine GE.pick U rfl rfl rfl (by k_ne) rfl rfl rfl ?_
      | refine GE.not U rfl rfl rfl (by k_ne) rfl rfl ?_
      | refine GE.nil U rfl rfl rfl (by k_ne) rfl rfl ?_
      | refine GE.bin U rfl rfl rfl (by k_ne) rfl rfl rfl rfl ?_
      | refine GE.fa U rfl rfl rfl (by k_ne) rfl rfl (fun w hw => by go_simp; (try rfl)) (fun w hw => by simp [go_sem]) ?_
      | refine GE.pure U rfl rfl rfl (by k_ne) rfl Try.func132 x132_n x132_b x132_x x132_f ?_)
     refine st_rd (.inr (.inl ⟨it, rfl, h4, rfl⟩)) rfl rfl rfl rfl (by k_ne) q126 rfl fun d2 hd2 wd h1 h2 => ?_
     repeat (first
      | refine GE.regionEnd U ?_
      | refine GE.exit U rfl ?_
      | refine GE.as U rfl rfl rfl (by k_ne) rfl rfl ?_)
     refine GE.to (rhoH p true true wd (it + 1) wst) ⟨rfl, rfl, rfl, rfl, congrArg (fun z => some (Value.int .i64 z)) (wrap_it h4), rfl, trivial⟩ ?_
     exact ih d2 (by omega) true true wd (it + 1) wst ⟨by simp, h2⟩ (by omega)
theorem slow_head (A : p.Ok) (hT : BehindLock p n i W todo (G (b₀.at (a₀.put ((ops₀[i₀]?).bind (·.dst)) (.tuple #[])) (.inRegion ops₀ rest₀ :: k₀)) cs)) (d : Nat) : HeadAt p n i W todo (b₀.at a₀ (.inRegion ops₀ (i₀ :: rest₀) :: k₀) :: cs) d := by
 induction d using Nat.strongRecOn with
 | ind d ih => exact fun aw sv o it wst hok hit => GE.inLoop FW.rule (slow_headC A hT d ih aw sv o it wst hok hit)
theorem slow_start (A : p.Ok) (hT : BehindLock p n i W todo (G (b₀.at (a₀.put ((ops₀[i₀]?).bind (·.dst)) (.tuple #[])) (.inRegion ops₀ rest₀ :: k₀)) cs)) (d : Nat) : HeadC p n i W todo (b₀.at a₀ (.inRegion ops₀ (i₀ :: rest₀) :: k₀) :: cs) d := slow_headC A hT d fun d' _ => slow_head A hT d'
end
end Go.Proofs.Ytnikfjfcbpeieaa.Hk
end
section
namespace Go.Proofs.Ytnikfjfcbpeieaa.Hk
open Go Go.Conc Go.RowKit Go.Proofs.Ytnikfjfcbpeieaa.Lk
open Go.ConcR (KK wgBlock WgAt stA smA rd wr)
open Go.ConcR.Gen
set_option linter.unusedVariables false
set_option linter.unusedSimpArgs false
section
variable {p : Pl} {n i : Nat} {W : World} {todo : List Int} {cs : List Frame} {b₀ : Frame} {a₀ : Act} {ops₀ : Array Oper} {i₀ : Nat} {rest₀ : List Nat} {k₀ : List Item}
set_option maxRecDepth 100000 in
set_option maxHeartbeats 8000000 in
theorem slow_walk (A : p.Ok) (hT : BehindLock p n i W todo (G (b₀.at (a₀.put ((ops₀[i₀]?).bind (·.dst)) (.tuple #[])) (.inRegion ops₀ rest₀ :: k₀)) cs)) (d : Nat) : GA p n i W todo d .r0 (base 126) (b₀.at a₀ (.inRegion ops₀ (i₀ :: rest₀) :: k₀) :: cs) 139 [] [(0, .pointer (some (mA p.Mu)))] [.code c126] := by
 have U : Rule (EnvH p n i none false) (DoH p n i none false) (FW p n i W) := FW.rule
 have hst := fun d => slow_start (p := p) (n := n) A hT d
 unfold HeadC at hst
 simp only [c126, Try.f126, Option.getD_some, cR, cB, cLp, cL, L126, B126, E126] at hst ⊢
 repeat (first
  | refine GE.seq U ?_
  | refine GE.regionEnd U ?_
  | refine GE.region _ U rfl ?_
  | refine GE.mv U rfl rfl rfl (by k_ne) rfl rfl ?_
  | refine GE.as U rfl rfl rfl (by k_ne) rfl rfl ?_
  | refine GE.nil U rfl rfl rfl (by k_ne) rfl rfl ?_
  | refine GE.fa U rfl rfl rfl (by k_ne) rfl rfl (fun w hw => by go_simp; (try rfl)) (fun w hw => by simp [go_sem]) ?_)
 refine st_rd (.inl ⟨rfl, rfl, rfl, rfl⟩) rfl rfl rfl rfl (by k_ne) q126 rfl fun d1 hd1 wd h1 h2 => ?_
 repeat (first
  | refine GE.seq U ?_
  | refine GE.block U ?_
  | refine GE.regionEnd U ?_
  | refine GE.as U rfl rfl rfl (by k_ne) rfl rfl ?_)
 refine GE.loop U ?_
 refine GE.to (rhoH p false false wd 0 0) ⟨rfl, rfl, rfl, rfl, rfl, rfl, trivial⟩ ?_
 exact hst d1 false false wd 0 0 ⟨fun _ => ⟨rfl, rfl, h1 rfl⟩, by simp⟩ (by omega)
set_option maxRecDepth 100000 in
set_option maxHeartbeats 8000000 in
theorem lock_inner (A : p.Ok) (hT : BehindLock p n i W todo (G (b₀.at (a₀.put ((ops₀[i₀]?).bind (·.dst)) (.tuple #[])) (.inRegion ops₀ rest₀ :: k₀)) cs)) (d : Nat) : GsA p n i W todo d .ld (G ((base 121).at ⟨#[.pointer (some (mA p.Mu))] ++ Array.replicate 12 undef, []⟩ [.code c121]) (b₀.at a₀ (.inRegion ops₀ (i₀ :: rest₀) :: k₀) :: cs)) := by
 have U : Rule (EnvH p n i none false) (DoH p n i none false) (FW p n i W) := FW.rule
 have hcell : ∀ w, FW p n i W w → ∃ v, w.cell? (mA p.Mu) = some v := fun w hw => hw.cell
 refine (?_ : GA p n i W todo d .ld (base 121) (b₀.at a₀ (.inRegion ops₀ (i₀ :: rest₀) :: k₀) :: cs) 13 [] [(0, .pointer (some (mA p.Mu)))] [.code c121]) _ (by simp) (looks1 _ _)
 simp only [c121, Try.f121, Option.getD_some]
 repeat (first
  | refine GE.seq U ?_
  | refine GE.region _ U rfl ?_)
 refine st_dis (.inl ⟨rfl, rfl⟩) rfl rfl rfl (by k_ne) rfl fun d1 hd1 => ?_
 repeat (first
  | refine GE.seq U ?_
  | refine GE.regionEnd U ?_
  | refine GE.region _ U rfl ?_
  | refine GE.mv U rfl rfl rfl (by k_ne) rfl rfl ?_
  | refine GE.nil U rfl rfl rfl (by k_ne) rfl rfl ?_
  | refine GE.fa U rfl rfl rfl (by k_ne) rfl rfl (fun w hw => by go_simp; (try rfl)) (fun w hw => by simp [go_sem]) ?_)
 refine st_l0 A rfl rfl rfl rfl rfl rfl (by k_ne) rfl (fun d2 hd2 => ?_) fun d2 hd2 => ?_
 repeat (first
  | refine GE.seq U ?_
  | refine GE.regionEnd U ?_
  | refine GE.region _ U rfl ?_
  | (refine GE.cond true U rfl ?_; simp only [if_true, if_false, Bool.false_eq_true, ↓reduceIte]))
 ·refine st_le rfl rfl rfl (by k_ne) rfl fun d3 hd3 => ?_
  repeat (first
   | refine GE.cv U rfl rfl rfl (by k_ne) rfl rfl (v := .pointer (some (mA p.Mu))) (fun w hw => by obtain ⟨v, hc⟩ := hcell w hw; exact run_convert_to_unsafe (P := Try.prog) Try.underlying151 Try.underlying124 room82 hc) (fun w hw => by obtain ⟨v, hc⟩ := hcell w hw; exact events_convert_to_unsafe (P := Try.prog) Try.underlying151 Try.underlying124 room82 hc _) ?_
   | refine GE.regionEnd U ?_
   | refine GE.region _ U rfl ?_
   | refine GE.mv U rfl rfl rfl (by k_ne) rfl rfl ?_)
  refine st_la rfl rfl rfl rfl (by k_ne) rfl fun d4 hd4 c hc => ?_
  have U : Rule (EnvH p n i none true) (DoH p n i none true) (FC p n i W c) := FC.rule
  repeat (first
   | refine GE.regionEnd U ?_)
  exact GE.ret0 U rfl Try.func121 rfl (hT d4 c hc)
 repeat (first
  | refine GE.skip U ?_
  | refine GE.regionEnd U ?_
  | refine GE.region _ U rfl ?_
  | (refine GE.cond false U rfl ?_; simp only [if_true, if_false, Bool.false_eq_true, ↓reduceIte])
  | refine GE.mv U rfl rfl rfl (by k_ne) rfl rfl ?_)
 ·refine GE.call #[.pointer (some (mA p.Mu))] U rfl rfl rfl (by k_ne) Try.func126 nm126 body126 (fun e he => by simp [he (.tmp 11) _ rfl]) fun T1 hT1 hl1 => ?_
  refine slow_walk A (fun d' c hc => ?_) d2 _ (by simp [Try.f126]) (looks1 _ _)
  have U : Rule (EnvH p n i none true) (DoH p n i none true) (FC p n i W c) := FC.rule
  exact GE.put (N := 13) rfl hT1 hl1 (GE.regionEnd U (GE.end0 U rfl Try.func121 rfl (hT d' c hc)))
set_option maxRecDepth 100000 in
set_option maxHeartbeats 8000000 in
theorem lock_walk (A : p.Ok) (hT : BehindLock p n i W todo (G (b₀.at (a₀.put ((ops₀[i₀]?).bind (·.dst)) (.tuple #[])) (.inRegion ops₀ rest₀ :: k₀)) cs)) (d : Nat) : GsA p n i W todo d .ld (G ((base 105).at ⟨#[.pointer (some (mA p.Mu))] ++ Array.replicate 5 undef, []⟩ [.code c105]) (b₀.at a₀ (.inRegion ops₀ (i₀ :: rest₀) :: k₀) :: cs)) := by
 have U : Rule (EnvH p n i none false) (DoH p n i none false) (FW p n i W) := FW.rule
 refine (?_ : GA p n i W todo d .ld (base 105) (b₀.at a₀ (.inRegion ops₀ (i₀ :: rest₀) :: k₀) :: cs) 6 [] [(0, .pointer (some (mA p.Mu)))] [.code c105]) _ (by simp) (looks1 _ _)
 simp only [c105, Try.f105, Option.getD_some]
 repeat (first
  | refine GE.region _ U rfl ?_
  | refine GE.mv U rfl rfl rfl (by k_ne) rfl rfl ?_
  | refine GE.nil U rfl rfl rfl (by k_ne) rfl rfl ?_
  | refine GE.fa U rfl rfl rfl (by k_ne) rfl rfl (fun w hw => by go_simp; (try rfl)) (fun w hw => by simp [go_sem]) ?_)
 refine GE.call #[.pointer (some (mA p.Mu))] U rfl rfl rfl (by k_ne) Try.func121 nm121 body121 (fun e he => by simp [he (.tmp 4) _ rfl]) fun T1 hT1 hl1 => ?_
 refine lock_inner A (fun d' c hc => ?_) d
 have U : Rule (EnvH p n i none true) (DoH p n i none true) (FC p n i W c) := FC.rule
 exact GE.put (N := 6) rfl hT1 hl1 (GE.regionEnd U (GE.end0 U rfl Try.func105 rfl (hT d' c hc)))
end
end Go.Proofs.Ytnikfjfcbpeieaa.Hk
end
