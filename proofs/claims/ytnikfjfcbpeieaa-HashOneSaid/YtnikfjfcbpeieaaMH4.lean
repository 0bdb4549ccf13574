/- Two workers who count under a lock, and their starter: where each stands. -/
/- Two workers who count under a lock, and their starter, beside leavers: what holds at every moment, and how a worker's step, a leaver's, the starter's keep it. -/
/- A worker's step, wherever it stands in its laps. -/
/- A worker's stops in its laps. -/
/- A worker's stops at the lock itself; and on its way out. -/
/- A worker on its way out; and a worker's step, wherever it stands. -/
/- A leaver's step; the starter's steps; all of it to the stop behind Wait. -/
/- The starter makes its block; a go statement. -/
/- The starter's step, wherever it stands; and all of it to the stop behind Wait. -/
/- A step of all of it; and all of it to the stop behind Wait. -/
import Derived.Test.YtnikfjfcbpeieaaMH1
import Derived.Test.YtnikfjfcbpeieaaMXa
section
namespace Go.Proofs.Ytnikfjfcbpeieaa.Hk
open Go Go.Conc Go.Proofs.Ytnikfjfcbpeieaa.Lk
open Go.ConcN (sumTo upd sumTo_upd upd_ne upd_same sumTo_congr)
open Go.ConcR (KK wgBlock WgAt stA smA rd wr)
set_option linter.unusedVariables false
set_option linter.unusedSimpArgs false
inductive Wp | lap (ph : Ph) | fin (s : Nat)
def Wp.stage : Wp → Nat | .lap _ => 7 | .fin s => s
def Wp.crit : Wp → Bool | .lap .ur => true | _ => false
def Wp.st : Wp → St | .lap ph => Hk.st ph | .fin _ => .N
structure WDH where
 rest : List Int
 q : Wp
 c : List Int
 fuel : Nat
 deaf : Nat
 o : Option Nat
 k : Nat
inductive WSH (p : Pl) (n i : Nat) : WDH → Goroutine → World → Prop
 | lap {rest : List Int} {ph : Ph} {c : List Int} {m : Nat} {o : Option Nat} {k : Nat} {g : Goroutine} {w : World} : (o ≠ none → ph = .ld) → Goes Try.prog false (EnvH p n i o (Wp.lap ph).crit) (DoH p n i o (Wp.lap ph).crit) (AtH p n i (k + 1) rest ph c) m g w → WSH p n i ⟨rest, .lap ph, c, 3 * m + 1, ph.deaf, o, k⟩ g w
 | blk {rest c : List Int} {sv : Bool} {k : Nat} {g : Goroutine} {w : World} : (∀ w₁, EnvH p n i none false w w₁ → AtH p n i (k + 1) rest (.s1 sv) c g w₁) → WSH p n i ⟨rest, .lap (.s1 sv), c, 0, 1, none, k⟩ { g with status := .blocked } w
 | r0 {m k : Nat} {g : Goroutine} {w : World} : Goes Try.prog false (EnvH p n i none false) (DoH p n i none false) (SRH p n i) m g w → WSH p n i ⟨[], .fin 7, [], 3 * m + 1, 0, none, k⟩ g w
 | k1 {m k : Nat} {g : Goroutine} {w : World} : Goes Try.prog false (EnvH p n i none false) Sil (SK (EnvH p n i none false) p.Wg) m g w → WSH p n i ⟨[], .fin 6, [], 3 * m + 1, 0, none, k⟩ g w
 | d1 {m k : Nat} {g : Goroutine} {w : World} : Goes Try.prog false (EnvH p n i none false) Sil (S1 (EnvH p n i none false) p.Wg) m g w → WSH p n i ⟨[], .fin 5, [], 3 * m + 1, 1, none, k⟩ g w
 | d2 {m k : Nat} {g : Goroutine} {w : World} : Goes Try.prog false (EnvH p n i none false) Sil (S2 (EnvH p n i none false) p.Wg) m g w → WSH p n i ⟨[], .fin 4, [], 3 * m + 1, 1, none, k⟩ g w
 | d3 {m k : Nat} {g : Goroutine} {w : World} : Goes Try.prog false (EnvH p n i none false) Sil (S3 (EnvH p n i none false) p.Wg) m g w → WSH p n i ⟨[], .fin 3, [], 3 * m + 1, 1, none, k⟩ g w
 | d4 {m k : Nat} {g : Goroutine} {w : World} : Goes Try.prog false (EnvH p n i none false) Sil (S4 p.Wg) m g w → WSH p n i ⟨[], .fin 2, [], 3 * m + 1, 1, none, k⟩ g w
 | quit {q d k : Nat} {g : Goroutine} {w : World} : QuitsD Try.prog q d g → WSH p n i ⟨[], .fin 1, [], 3 * q + 1, d, none, k⟩ g w
theorem AtH.running {p : Pl} {n i k : Nat} {rest c : List Int} {ph : Ph} {g : Goroutine} {w : World} (h : AtH p n i (k + 1) rest ph c g w) : g.status = .running := StpH.run h
section
variable {p : Pl} {n i : Nat} {d : WDH} {g : Goroutine} {w w₁ : World}
theorem WSH.rely (h : WSH p n i d g w) (hr : EnvH p n i d.o d.q.crit w w₁) : WSH p n i d g w₁ := by
 have tr : ∀ (o : Option Nat) (b : Bool) (x y z : World), EnvH p n i o b x y → EnvH p n i o b y z → EnvH p n i o b x z := fun _ _ _ _ _ h1 h2 => h1.trans h2
 cases h with
 | lap h1 h => exact .lap h1 (Goes.rely (tr _ _) h hr)
 | blk h => exact .blk fun w₂ h₂ => h w₂ (EnvH.trans hr h₂)
 | r0 h => exact .r0 (Goes.rely (tr _ _) h hr)
 | k1 h => exact .k1 (Goes.rely (tr _ _) h hr)
 | d1 h => exact .d1 (Goes.rely (tr _ _) h hr)
 | d2 h => exact .d2 (Goes.rely (tr _ _) h hr)
 | d3 h => exact .d3 (Goes.rely (tr _ _) h hr)
 | d4 h => exact .d4 (Goes.rely (tr _ _) h hr)
 | quit h => exact .quit h
def WDH.blocked (d : WDH) : Prop := (∃ sv, d.q = .lap (.s1 sv)) ∧ d.fuel = 0
theorem WSH.status (h : WSH p n i d g w) : (g.status = .running ∧ d.fuel ≠ 0) ∨ (g.status = .finished ∧ d.q = .fin 1) ∨ (g.status = .blocked ∧ d.blocked) := by
 cases h with
 | lap _ h => exact .inl ⟨Goes.running (fun _ _ x => AtH.running x) w (EnvH.refl w) h, by simp⟩
 | blk h => exact .inr (.inr ⟨rfl, ⟨_, rfl⟩, rfl⟩)
 | r0 h => exact .inl ⟨Goes.running (fun _ _ x => x.1) w (EnvH.refl w) h, by simp⟩
 | k1 h => exact .inl ⟨Goes.running (fun _ _ x => x.1) w (EnvH.refl w) h, by simp⟩
 | d1 h => exact .inl ⟨Goes.running (fun _ _ x => x.1) w (EnvH.refl w) h, by simp⟩
 | d2 h => exact .inl ⟨Goes.running (fun _ _ x => x.1) w (EnvH.refl w) h, by simp⟩
 | d3 h => exact .inl ⟨Goes.running (fun _ _ x => x.1) w (EnvH.refl w) h, by simp⟩
 | d4 h => exact .inl ⟨Goes.running (fun _ _ x => x.1) w (EnvH.refl w) h, by simp⟩
 | quit h =>
  rcases h.status with h | h
  ·exact .inl ⟨h, by simp⟩
  ·exact .inr (.inl ⟨h, rfl⟩)
theorem WSH.wokenBy (h : WSH p n i d g w) (hr : EnvH p n i d.o d.q.crit w w₁) (a a' : Goroutine) :
  ∃ f, WSH p n i { d with fuel := f } (woken Try.prog a a' w₁ g) w₁ ∧ d.fuel ≤ f ∧ f ≤ d.fuel + 1 ∧ (mayWake Try.prog a = true → a'.status = .running → f ≠ 0) ∧ ((∀ sv, d.q ≠ .lap (.s1 sv)) → f = d.fuel) := by
 have h' := h.rely hr
 unfold Go.Conc.woken
 split
 ·rcases h'.status with ⟨hs, hf⟩ | ⟨hs, hq⟩ | ⟨_, hb⟩
  ·exact ⟨d.fuel, by rw [again_running _ (.inl hs)]; exact h', Nat.le_refl _, by omega, fun _ _ => hf, fun _ => rfl⟩
  ·refine ⟨d.fuel, by rw [again_running _ (.inr hs)]; exact h', Nat.le_refl _, by omega, fun _ _ => ?_, fun _ => rfl⟩
   cases h' <;> simp_all
  ·cases h' with
   | blk hb' =>
    rename_i rest c sv k g0
    have h3 : StpH _ _ _ _ _ _ _ _ _ := hb' w₁ (.refl w₁)
    exact ⟨3 * 0 + 1, by rw [Go.ConcR.again_blocked h3.run h3.offers]; exact .lap (by simp) (Goes.stop hb'), by simp, by simp, fun _ _ => by simp, fun hn => absurd rfl (hn _)⟩
   | _ => obtain ⟨⟨sv, e⟩, e2⟩ := hb; simp_all
 ·rename_i hc
  exact ⟨d.fuel, h', Nat.le_refl _, by omega, fun h1 h2 => absurd (by simp [h1, h2]) hc, fun _ => rfl⟩
end
structure RMH (p : Pl) (n L0 : Nat) (hb : Option Nat) (w w₁ : World) : Prop where
 tape : w₁.tape = w.tape
 output : w₁.output = w.output
 size : w.heap.size ≤ w₁.heap.size
 os : Later w.os w₁.os
 block : ∀ b, b < L0 → b ≠ p.Wg → b ≠ p.Mu → b ≠ p.Al → w₁.heap[b]? = w.heap[b]?
 own : ∀ b, hb = some b → w₁.heap[b]? = w.heap[b]?
 live : LiveH p n w → LiveH p n w₁
 wg : Live p.Wg w → Live p.Wg w₁
def OkS (p : Pl) (L0 : Nat) (hb : Option Nat) (B : Nat) (e : Event) : Prop :=
 (∀ y, (MemAct.ofEvent e).touch? = some y → (AtW p y.loc ∧ y.kind ≠ .plain) ∨ ∃ ad, y.loc = .cell ad ∧ ((ad.block < L0 ∧ ad.block ≠ p.Wg ∧ ad.block ≠ p.Mu ∧ ad.block ≠ p.Al ∧ ¬ p.S ad.block ∧ y.write = false) ∨ hb = some ad.block)) ∧
  NoRel p (.ofEvent e) ∧ (MemAct.ofEvent e).low B ∧ e.loc ≠ .mark .disable ∧ e.loc ≠ .mark .enable
structure DMH (p : Pl) (n L0 : Nat) (hb : Option Nat) (w w' : World) (es : Array Event) : Prop where
 tape : w'.tape = w.tape
 output : w'.output = w.output
 os : w'.os = w.os
 size : w'.heap.size = w.heap.size
 block : ∀ b, hb ≠ some b → w'.heap[b]? = w.heap[b]?
 ev : ∀ e ∈ es, OkS p L0 hb w'.heap.size e
def Pl.w (p : Pl) (h : Option Nat) : Pl := { p with Rb := fun i b => p.Rb i b ∨ (i = 1 ∧ h = some b) }
def Pl.x (p : Pl) (h : Option Nat) (j : Nat) : Pl := if j = 0 then p else p.w h
def StartW (p : Pl) (n i : Nat) (l : List Int) (k : Nat) (g : Goroutine) (w : World) : Prop :=
 (l = [] → RunsH p n i none false (SRH p n i) g w) ∧ (l ≠ [] → RunsH p n i none false (AtH p n i k l .al []) g w)
section
variable (p : Pl) (n L0 : Nat) (all : Nat → List Int) (Ld : Goroutine → World → Prop)
def MGoH (j : Nat) (hb : Option Nat) (Next : Goroutine → World → Prop) (g : Goroutine) (w : World) : Prop :=
 g.status = .running ∧ ∃ g' child, stepG Try.prog true g w = .spawn g' child w #[] ∧ child.status = .running ∧ (∀ k, StartW (p.x hb j) n j (all j) k child w) ∧ Next g' w
def Sc4 : Goroutine → World → Prop := Runs Try.prog true (RMH p n L0 none) (DMH p n L0 none) (WKd (RMH p n L0 none) (DMH p n L0 none) p.Wg Ld)
def Sc3 (h : Nat) : Goroutine → World → Prop := Runs Try.prog true (RMH p n L0 (some h)) (DMH p n L0 (some h)) (MKd (RMH p n L0 (some h)) (DMH p n L0 (some h)) p.Wg (MGoH p n all 1 (some h) (Sc4 p n L0 Ld)))
def MAl (g : Goroutine) (w : World) : Prop :=
 g.status = .running ∧ ∃ g' ob es, stepG Try.prog true g w = .go g' (w.alloc ob) es ∧ (∀ e ∈ es, SilE p (w.heap.size + 1) e) ∧ Sc3 p n L0 all Ld w.heap.size g' (w.alloc ob)
def Sc2 : Goroutine → World → Prop := Runs Try.prog true (RMH p n L0 none) (DMH p n L0 none) (MAl p n L0 all Ld)
def Nxt (r : Nat) : Goroutine → World → Prop := if r = 1 then Sc2 p n L0 all Ld else Sc4 p n L0 Ld
def okr (r : Nat) (hb : Option Nat) : Prop := (r = 1 ∧ hb = none) ∨ (r = 0 ∧ ∃ b, hb = some b)
inductive CSH : CTag → Nat → Option Nat → Nat → Nat → Goroutine → World → Prop
 | skd {r m : Nat} {hb : Option Nat} {g : Goroutine} {w : World} : okr r hb → Goes Try.prog true (RMH p n L0 hb) (DMH p n L0 hb) (MKd (RMH p n L0 hb) (DMH p n L0 hb) p.Wg (MGoH p n all (1 - r) hb (Nxt p n L0 all Ld r))) m g w → CSH (.sp r 5) (1 - r) hb (3 * m + 1) 0 g w
 | sa {r m : Nat} {hb : Option Nat} {g : Goroutine} {w : World} : okr r hb → Goes Try.prog true (RMH p n L0 hb) (DMH p n L0 hb) (MA (RMH p n L0 hb) (DMH p n L0 hb) p.Wg (MGoH p n all (1 - r) hb (Nxt p n L0 all Ld r))) m g w → CSH (.sp r 4) (1 - r) hb (3 * m + 1) 1 g w
 | ske {r m : Nat} {hb : Option Nat} {g : Goroutine} {w : World} : okr r hb → Goes Try.prog true (RMH p n L0 hb) (DMH p n L0 hb) (MKe (RMH p n L0 hb) (DMH p n L0 hb) (MGoH p n all (1 - r) hb (Nxt p n L0 all Ld r))) m g w → CSH (.sp r 3) (1 - r) hb (3 * m + 1) 1 g w
 | sgo {r m : Nat} {hb : Option Nat} {g : Goroutine} {w : World} : okr r hb → Goes Try.prog true (RMH p n L0 hb) (DMH p n L0 hb) (MGoH p n all (1 - r) hb (Nxt p n L0 all Ld r)) m g w → CSH (.sp r 2) (1 - r) hb (3 * m + 1) 0 g w
 | al {m : Nat} {g : Goroutine} {w : World} : Goes Try.prog true (RMH p n L0 none) (DMH p n L0 none) (MAl p n L0 all Ld) m g w → CSH (.sp 0 6) 1 none (3 * m + 1) 0 g w
 | kd {m b : Nat} {g : Goroutine} {w : World} : Goes Try.prog true (RMH p n L0 none) (DMH p n L0 none) (WKd (RMH p n L0 none) (DMH p n L0 none) p.Wg Ld) m g w → CSH .kd 2 (some b) (3 * m + 1) 0 g w
 | w1 {x m b : Nat} {g : Goroutine} {w : World} : x ≤ 2 → Goes Try.prog true (RMH p n L0 none) (DMH p n L0 none) (W1 (RMH p n L0 none) (DMH p n L0 none) p.Wg Ld x) m g w → CSH (.w1 x) 2 (some b) (3 * m + 1) 1 g w
 | w2 {x vs m b : Nat} {g : Goroutine} {w : World} : 1 ≤ vs → vs ≤ x + 1 → x ≤ 1 → Goes Try.prog true (RMH p n L0 none) (DMH p n L0 none) (W2 (RMH p n L0 none) (DMH p n L0 none) p.Wg Ld (W1 (RMH p n L0 none) (DMH p n L0 none) p.Wg Ld x) vs) m g w → CSH (.w2 x vs) 2 (some b) (3 * m + 1) 1 g w
 | w3 {m b : Nat} {g : Goroutine} {w : World} : Goes Try.prog true (RMH p n L0 none) (DMH p n L0 none) (W3 (RMH p n L0 none) (DMH p n L0 none) p.Wg Ld) m g w → CSH .w3 2 (some b) (3 * m + 1) 1 g w
 | blk {b : Nat} {g : Goroutine} {w : World} : (∀ w₁, RMH p n L0 none w w₁ → W3 (RMH p n L0 none) (DMH p n L0 none) p.Wg Ld g w₁) → CSH .blk 2 (some b) 0 1 { g with status := .blocked } w
 | w4 {m b : Nat} {g : Goroutine} {w : World} : Goes Try.prog true (RMH p n L0 none) (DMH p n L0 none) (W4 (RMH p n L0 none) (DMH p n L0 none) p.Wg Ld) m g w → CSH .w4 2 (some b) (3 * m + 1) 1 g w
 | ke {m b : Nat} {g : Goroutine} {w : World} : Goes Try.prog true (RMH p n L0 none) (DMH p n L0 none) (WKe (RMH p n L0 none) (DMH p n L0 none) p.Wg Ld) m g w → CSH .ke 2 (some b) (3 * m + 1) 1 g w
 | acq {m b : Nat} {g : Goroutine} {w : World} : Goes Try.prog true (RMH p n L0 none) (DMH p n L0 none) (WAcq (RMH p n L0 none) (DMH p n L0 none) p.Wg Ld) m g w → CSH .acq 2 (some b) (3 * m + 1) 0 g w
 | ld {m b : Nat} {g : Goroutine} {w : World} : Goes Try.prog true (RMH p n L0 none) (DMH p n L0 none) Ld m g w → CSH .ld 2 (some b) (3 * m + 1) 0 g w
end
section
variable {p : Pl} {n L0 : Nat} {all : Nat → List Int} {Ld : Goroutine → World → Prop} {tag : CTag} {j f d : Nat} {hb : Option Nat} {a : Goroutine} {w w' w₁ w₂ : World}
theorem RMH.trans (h : RMH p n L0 hb w w₁) (k : RMH p n L0 hb w₁ w₂) : RMH p n L0 hb w w₂ :=
 ⟨k.tape.trans h.tape, k.output.trans h.output, Nat.le_trans h.size k.size, h.os.trans k.os, fun b h1 h2 h3 h4 => (k.block b h1 h2 h3 h4).trans (h.block b h1 h2 h3 h4), fun b e => (k.own b e).trans (h.own b e), k.live ∘ h.live, k.wg ∘ h.wg⟩
theorem RMH.refl (w : World) : RMH p n L0 hb w w := ⟨rfl, rfl, Nat.le_refl _, .refl _, fun _ _ _ _ _ => rfl, fun _ _ => rfl, id, id⟩
theorem LiveH.at {d : Nat} (l : LiveH p n w) : LiveH p n (w.at d) := ⟨l.wg, l.mu, l.al⟩
theorem RMH.at (w : World) (d : Nat) : RMH p n L0 hb w (w.at d) := ⟨rfl, rfl, Nat.le_refl _, .refl _, fun _ _ _ _ _ => rfl, fun _ _ => rfl, LiveH.at, id⟩
theorem RMH.none (h : RMH p n L0 hb w w₁) : RMH p n L0 .none w w₁ := ⟨h.tape, h.output, h.size, h.os, h.block, fun _ e => (by cases e), h.live, h.wg⟩
theorem EnvH.at {i : Nat} {o : Option Nat} {b : Bool} (w : World) (d : Nat) : EnvH p n i o b w (w.at d) := ⟨fun _ _ => rfl, fun _ _ => rfl, LiveH.at, fun _ => rfl, id⟩
theorem CSH.rely (h : CSH p n L0 all Ld tag j hb f d a w) (hr : RMH p n L0 hb w w') : CSH p n L0 all Ld tag j hb f d a w' := by
 have tr : ∀ (hb : Option Nat) (x y z : World), RMH p n L0 hb x y → RMH p n L0 hb y z → RMH p n L0 hb x z := fun _ _ _ _ h1 h2 => h1.trans h2
 cases h with
 | skd hn h => exact .skd hn (Goes.rely (tr _) h hr)
 | sa hn h => exact .sa hn (Goes.rely (tr _) h hr)
 | ske hn h => exact .ske hn (Goes.rely (tr _) h hr)
 | sgo hn h => exact .sgo hn (Goes.rely (tr _) h hr)
 | al h => exact .al (Goes.rely (tr _) h hr)
 | kd h => exact .kd (Goes.rely (tr _) h hr.none)
 | w1 hn h => exact .w1 hn (Goes.rely (tr _) h hr.none)
 | w2 h1 h2 h3 h => exact .w2 h1 h2 h3 (Goes.rely (tr _) h hr.none)
 | w3 h => exact .w3 (Goes.rely (tr _) h hr.none)
 | blk h => exact .blk fun w₂ h₂ => h w₂ (hr.none.trans h₂)
 | w4 h => exact .w4 (Goes.rely (tr _) h hr.none)
 | ke h => exact .ke (Goes.rely (tr _) h hr.none)
 | acq h => exact .acq (Goes.rely (tr _) h hr.none)
 | ld h => exact .ld (Goes.rely (tr _) h hr.none)
theorem CSH.status (hL : ∀ g w, Ld g w → g.status = .running) (h : CSH p n L0 all Ld tag j hb f d a w) : (a.status = .running ∧ tag ≠ .blk) ∨ (a.status = .blocked ∧ tag = .blk) := by
 cases h with
 | skd _ h => exact .inl ⟨Goes.running (fun _ _ x => x.1) w (RMH.refl w) h, by simp⟩
 | sa _ h => exact .inl ⟨Goes.running (fun _ _ x => x.1) w (RMH.refl w) h, by simp⟩
 | ske _ h => exact .inl ⟨Goes.running (fun _ _ x => x.1) w (RMH.refl w) h, by simp⟩
 | sgo _ h => exact .inl ⟨Goes.running (fun _ _ x => x.1) w (RMH.refl w) h, by simp⟩
 | al h => exact .inl ⟨Goes.running (fun _ _ x => x.1) w (RMH.refl w) h, by simp⟩
 | kd h => exact .inl ⟨Goes.running (fun _ _ x => x.1) w (RMH.refl w) h, by simp⟩
 | w1 _ h => exact .inl ⟨Goes.running (fun _ _ x => W1.running x) w (RMH.refl w) h, by simp⟩
 | w2 _ _ _ h => exact .inl ⟨Goes.running (fun _ _ x => x.1) w (RMH.refl w) h, by simp⟩
 | w3 h => exact .inl ⟨Goes.running (fun _ _ x => x.1) w (RMH.refl w) h, by simp⟩
 | blk h => exact .inr ⟨rfl, rfl⟩
 | w4 h => exact .inl ⟨Goes.running (fun _ _ x => x.1) w (RMH.refl w) h, by simp⟩
 | ke h => exact .inl ⟨Goes.running (fun _ _ x => x.1) w (RMH.refl w) h, by simp⟩
 | acq h => exact .inl ⟨Goes.running (fun _ _ x => x.1) w (RMH.refl w) h, by simp⟩
 | ld h => exact .inl ⟨Goes.running hL w (RMH.refl w) h, by simp⟩
theorem CSH.wokenBy (hL : ∀ g w, Ld g w → g.status = .running) (h : CSH p n L0 all Ld tag j hb f d a w) (hr : RMH p n L0 hb w w') (g g' : Goroutine) :
  ∃ tag' f', CSH p n L0 all Ld tag' j hb f' d (woken Try.prog g g' w' a) w' ∧ f' ≤ f + 1 ∧ (tag' = tag ∨ (tag = .blk ∧ tag' = .w3)) ∧ (mayWake Try.prog g = true → g'.status = .running → tag' ≠ .blk) := by
 have h' := h.rely hr
 unfold Go.Conc.woken
 split
 ·rcases h'.status hL with ⟨hs, hne⟩ | ⟨_, rfl⟩
  ·exact ⟨tag, f, by rw [again_running _ (.inl hs)]; exact h', by omega, .inl rfl, fun _ _ => hne⟩
  ·cases h' with
   | blk hb =>
    rename_i g0
    have h3 := hb w' (.refl w')
    exact ⟨.w3, 3 * 0 + 1, by rw [Go.ConcR.again_blocked h3.1 h3.2.1]; exact .w3 (Goes.stop hb), by omega, .inr ⟨rfl, rfl⟩, fun _ _ => by simp⟩
 ·rename_i hc
  exact ⟨tag, f, h', by omega, .inl rfl, fun h1 h2 => absurd (by simp [h1, h2]) hc⟩
theorem CSH.two (h : CSH p n L0 all Ld tag j hb f d a w) : j ≤ 2 := by cases h <;> omega
theorem CSH.bound (h : CSH p n L0 all Ld tag j hb f d a w) : j + pend tag ≤ 2 := by
 cases h <;> simp only [pend] <;> (try simp) <;> (try omega)
 all_goals (rename_i hr _; rcases hr with ⟨rfl, _⟩ | ⟨rfl, _⟩ <;> simp)
end
end Go.Proofs.Ytnikfjfcbpeieaa.Hk
end
section
namespace Go.Proofs.Ytnikfjfcbpeieaa.Hk
open Go Go.Conc Go.Proofs.Ytnikfjfcbpeieaa.Lk
open Go.ConcN (sumTo upd sumTo_upd upd_ne upd_same sumTo_congr RelBy get_map_set get_map_set_same)
open Go.ConcR (KK wgBlock WgAt stA smA rd wr)
set_option linter.unusedVariables false
set_option linter.unusedSimpArgs false
def Ph.pre : Ph → Bool | .ur | .ud | .u0 | .uc | .us _ | .ue => false | _ => true
def Ph.up : Ph → Nat | .ur | .ud | .u0 => 1 | _ => 0
def Ph.made : Ph → Nat | .al | .ur | .ud | .u0 | .uc | .us _ | .ue => 0 | _ => 1
def lenH (wd : Wd) (d : WDH) : Nat := match d.q with | .lap ph => 1000 * (d.rest.length + ph.up) + rho wd ph | .fin s => s
def alft (d : WDH) : Nat := match d.q with | .lap ph => d.rest.length - ph.made | .fin _ => 0
def md (d : WDH) : WD := ⟨[], d.q.stage, 0, 0⟩
def tokD (D : Nat → WDH) : Option Nat := if (D 0).q.crit then some 0 else if (D 1).q.crit then some 1 else none
def M1 (tag : CTag) (wd : Wd) (D : Nat → WDH) : Nat := phi tag + 100 * wd.lv + lenH wd (D 0) + lenH wd (D 1)
def dFresh (l : List Int) : WDH := ⟨l, if l = [] then .fin 7 else .lap .al, [], 0, 0, none, 0⟩
structure KpH (B0 : Nat) (w w' : World) : Prop where
 tape : w'.tape = w.tape
 os : Later w.os w'.os
 output : w'.output = w.output
 size : w.heap.size ≤ w'.heap.size
 block : ∀ b, b < B0 → w'.heap[b]? = w.heap[b]?
structure GeoH (p : Pl) (n L0 B0 : Nat) : Prop where
 ok : p.Ok
 wL : p.Wg < L0
 mL : p.Mu < L0
 aL : p.Al < L0
 wB : B0 ≤ p.Wg
 mB : B0 ≤ p.Mu
 aB : B0 ≤ p.Al
 rL : ∀ i b, p.Rb i b → b < L0
 sB : ∀ b, p.S b → b < B0
section
variable (p : Pl) (n L0 : Nat) (all : Nat → List Int) (Ld : Goroutine → World → Prop) (T : List Int) (Z B0 : Nat) (W : World)
structure IS (gs : Array Goroutine) (w : World) (j : Nat) (D : Nat → WDH) (tag : CTag) (f0 d0 : Nat) (a : Goroutine) (st sm : Int) (q : Nat → Nat) (hb : Option Nat) (wd : Wd) (m : Bool) (Ow : Nat → Nat → Prop) (c : List Int) (t : Trace) : Prop where
 a0 : gs[0]? = some a
 cs : CSH p n L0 all Ld tag j hb f0 d0 a w
 size : gs.size = p.K + j
 old : ∀ x g, 0 < x → x < p.K → gs[x]? = some g → QuitsD Try.prog (q x) (Deaf t x) g
 wk : ∀ i, i < j → ∃ g, gs[p.K + i]? = some g ∧ WSH (p.x hb i) n i (D i) g w
 deaf0 : Deaf t 0 = d0
 deafW : ∀ i, i < j → Deaf t (p.K + i) = (D i).deaf
 rel : ∀ i, i < j → (D i).q.stage ≤ 6 → ∃ r, Gone p.Wg (p.K + i) t r
 above : ∀ x, p.K + j ≤ x → Deaf t x = 0
 fresh : ∀ i, j ≤ i → D i = dFresh (all i)
 mid : MidH (p.w hb) Ow w.heap.size j (tokD D) t
 wg : WgAt 108 p.Wg w st sm
 mode : Lk.Mode j (fun i => md (D i)) tag st sm
 mu : MuIs p n w wd m
 jj : J (D 0).q.st (D 1).q.st wd m = true
 cl : c.length = n
 al : tokD D = none → AlIs p c w
 cr : ∀ i, i < 2 → (D i).q.crit = true → (D i).c = c
 ct : ((D 0).rest ++ (D 1).rest).foldl inc c = T
 ne : ∀ i, i < 2 → ∀ ph, (D i).q = .lap ph → ph.pre = true → (D i).rest ≠ []
 sz : w.heap.size + (alft (D 0) + alft (D 1)) + (if hb = none then 1 else 0) = Z
 own : ∀ i b, i < j → (D i).o = some b → Ow i b
 owl : ∀ x b, Ow x b → L0 ≤ b ∧ hb ≠ some b
 hbl : ∀ b, hb = some b → L0 ≤ b ∧ b < w.heap.size
 hbj : (j = 0 → hb = none) ∧ (j = 2 → hb ≠ none)
 acq : tag = .ld → AcqH p.Wg p.K j t
 kp : KpH B0 W w
 live : LiveH p n w
 lo : L0 ≤ w.heap.size
 bl : ∀ i, i < 2 → (D i).blocked → m = false
 dep : ∀ i, i < j → ∀ ph, (D i).q = .lap ph → M1 tag wd D ≤ (D i).k
def M2 (D : Nat → WDH) (f0 K : Nat) (q : Nat → Nat) : Nat := f0 + ((D 0).fuel + (D 1).fuel) + 4 * sumTo K q
def InvH (μ : Nat × Nat) (mc : Machine) (t : Trace) : Prop :=
 ∃ (gs : Array Goroutine) (w : World) (sl : Option (Nat × Nat)) (j : Nat) (D : Nat → WDH) (tag : CTag) (f0 d0 : Nat) (a : Goroutine) (st sm : Int) (q : Nat → Nat) (hb : Option Nat) (wd : Wd) (m : Bool) (Ow : Nat → Nat → Prop) (c : List Int),
  mc = crowd gs w sl ∧ IS p n L0 all Ld T Z B0 W gs w j D tag f0 d0 a st sm q hb wd m Ow c t ∧ μ = (M1 tag wd D, M2 D f0 p.K q)
end
def EqF (D D' : Nat → WDH) : Prop := ∀ i, ∃ f, D' i = { D i with fuel := f }
section
variable {D D' : Nat → WDH}
theorem EqF.rest (h : EqF D D') (i : Nat) : (D' i).rest = (D i).rest := by obtain ⟨f, e⟩ := h i; rw [e]
theorem EqF.q (h : EqF D D') (i : Nat) : (D' i).q = (D i).q := by obtain ⟨f, e⟩ := h i; rw [e]
theorem EqF.c (h : EqF D D') (i : Nat) : (D' i).c = (D i).c := by obtain ⟨f, e⟩ := h i; rw [e]
theorem EqF.deaf (h : EqF D D') (i : Nat) : (D' i).deaf = (D i).deaf := by obtain ⟨f, e⟩ := h i; rw [e]
theorem EqF.o (h : EqF D D') (i : Nat) : (D' i).o = (D i).o := by obtain ⟨f, e⟩ := h i; rw [e]
theorem EqF.k (h : EqF D D') (i : Nat) : (D' i).k = (D i).k := by obtain ⟨f, e⟩ := h i; rw [e]
theorem EqF.md (h : EqF D D') (i : Nat) : Hk.md (D' i) = Hk.md (D i) := by unfold Hk.md; rw [h.q]
theorem EqF.len (h : EqF D D') (wd : Wd) (i : Nat) : lenH wd (D' i) = lenH wd (D i) := by unfold lenH; rw [h.q, h.rest]
theorem EqF.alft (h : EqF D D') (i : Nat) : Hk.alft (D' i) = Hk.alft (D i) := by unfold Hk.alft; rw [h.q, h.rest]
theorem EqF.tok (h : EqF D D') : tokD D' = tokD D := by unfold tokD; rw [h.q, h.q]
theorem EqF.M1 (h : EqF D D') (tag : CTag) (wd : Wd) : Hk.M1 tag wd D' = Hk.M1 tag wd D := by unfold Hk.M1; rw [h.len, h.len]
theorem EqF.refl : EqF D D := fun i => ⟨(D i).fuel, rfl⟩
end
theorem md_upd (D : Nat → WDH) (i : Nat) (x : WDH) : (fun y => md (upd D i x y)) = upd (fun y => md (D y)) i (md x) := by
 funext y
 by_cases e : y = i
 ·subst e; rw [upd_same, upd_same]
 ·rw [upd_ne _ _ e, upd_ne _ _ e]
structure Chg (p : Pl) (n : Nat) (o : Option Nat) (cr : Bool) (w w' : World) : Prop where
 tape : w'.tape = w.tape
 output : w'.output = w.output
 os : Later w.os w'.os
 size : w.heap.size ≤ w'.heap.size
 block : ∀ b, b < w.heap.size → b ≠ p.Mu → b ≠ p.Wg → (b = p.Al → cr = false) → o ≠ some b → w'.heap[b]? = w.heap[b]?
 live : LiveH p n w → LiveH p n w'
 wg : Live p.Wg w → Live p.Wg w'
theorem Chg.refl {p : Pl} {n : Nat} {o : Option Nat} {cr : Bool} (w : World) : Chg p n o cr w w := ⟨rfl, rfl, .refl _, Nat.le_refl _, fun _ _ _ _ _ _ => rfl, id, id⟩
theorem KpH.trans {B0 : Nat} {a b c : World} (h : KpH B0 a b) (k : KpH B0 b c) : KpH B0 a c := ⟨k.tape.trans h.tape, h.os.trans k.os, k.output.trans h.output, Nat.le_trans h.size k.size, fun x hx => (k.block x hx).trans (h.block x hx)⟩
theorem px_w (p : Pl) (h : Option Nat) (i : Nat) : (p.x h i).S = p.S ∧ (p.x h i).Wg = p.Wg ∧ (p.x h i).Mu = p.Mu ∧ (p.x h i).Al = p.Al ∧ (p.x h i).K = p.K := by
 unfold Pl.x; split <;> exact ⟨rfl, rfl, rfl, rfl, rfl⟩
theorem px_rb (p : Pl) (h : Option Nat) (i : Nat) (hi : i < 2) (b : Nat) : (p.x h i).Rb i b ↔ (p.w h).Rb i b := by
 unfold Pl.x
 split
 ·rename_i e; subst e; simp [Pl.w]
 ·exact Iff.rfl
section
variable {p : Pl} {n L0 : Nat} {all : Nat → List Int} {Ld : Goroutine → World → Prop} {T : List Int} {Z B0 : Nat} {W : World}
 {gs : Array Goroutine} {w w' : World} {sl : Option (Nat × Nat)} {j : Nat} {D : Nat → WDH} {tag : CTag} {f0 d0 : Nat} {a : Goroutine} {st sm : Int} {q : Nat → Nat} {hb : Option Nat} {wd : Wd} {m : Bool} {Ow : Nat → Nat → Prop} {c : List Int} {t : Trace}
theorem IS.okw (G : GeoH p n L0 B0) (I : IS p n L0 all Ld T Z B0 W gs w j D tag f0 d0 a st sm q hb wd m Ow c t) : (p.w hb).Ok := by
 have h := G.ok
 refine ⟨fun i b hr => ?_, h.wm, h.wa, h.ma, h.sw, h.sM, h.sa, h.k0⟩
 rcases hr with hr | ⟨_, hr⟩
 ·exact h.rb i b hr
 ·have h1 := (I.hbl b hr).1
  have := G.wL; have := G.mL; have := G.aL; have := G.wB
  exact ⟨fun e => by have e : b = p.Wg := e; omega, fun e => by have e : b = p.Mu := e; omega, fun e => by have e : b = p.Al := e; omega, fun e => by have := G.sB b e; omega⟩
theorem IS.two (I : IS p n L0 all Ld T Z B0 W gs w j D tag f0 d0 a st sm q hb wd m Ow c t) : j ≤ 2 := I.cs.two
theorem IS.envO (G : GeoH p n L0 B0) (I : IS p n L0 all Ld T Z B0 W gs w j D tag f0 d0 a st sm q hb wd m Ow c t) {i : Nat} (hi : i < j) (hC : Chg p n (D i).o (D i).q.crit w w') {y : Nat} (hy : y < j) (hne : y ≠ i) : EnvH (p.x hb y) n y (D y).o (D y).q.crit w w' := by
 have h2 := I.two
 obtain ⟨eS, eW, eM, eA, eK⟩ := px_w p hb y
 have ow : ∀ b, (D i).o = some b → L0 ≤ b ∧ hb ≠ some b := fun b e => I.owl i b (I.own i b hi e)
 refine ⟨fun b hr => ?_, fun b e => ?_, fun l => ?_, fun e => ?_, by rw [eW]; exact hC.wg⟩
 ·rw [px_rb p hb y (by omega)] at hr
  obtain ⟨h1, h3, h4, _⟩ := (I.okw G).rb y b hr
  have hlt : b < w.heap.size := by
   rcases hr with hr | ⟨_, hr⟩
   ·have := G.rL y b hr; have := I.lo; omega
   ·exact (I.hbl b hr).2
  refine hC.block b hlt h3 h1 (fun e => absurd e h4) fun e => ?_
  obtain ⟨h5, h6⟩ := ow b e
  rcases hr with hr | ⟨_, hr⟩
  ·have := G.rL y b hr; omega
  ·exact h6 hr
 ·obtain ⟨_, h1, h3, h4, h5, _, _, h6⟩ := I.mid.ow y b (I.own y b hy e)
  refine hC.block b h1 h4 h3 (fun e => absurd e h5) fun e' => hne ?_
  exact (h6 i (I.own i b hi e')).symm
 ·have l' : LiveH p n w := ⟨by have := l.wg; rwa [eW] at this, by have := l.mu; unfold MuIs at *; rw [eM, eA] at this; exact this, by have := l.al; unfold AlIs at *; rw [eA] at this; exact this⟩
  have l2 := hC.live l'
  exact ⟨by rw [eW]; exact l2.wg, by have := l2.mu; unfold MuIs at *; rw [eM, eA]; exact this, by have := l2.al; unfold AlIs at *; rw [eA]; exact this⟩
 ·rw [eA]
  have hlt : p.Al < w.heap.size := by have := G.aL; have := I.lo; omega
  refine hC.block p.Al hlt G.ok.ma.symm (Ne.symm G.ok.wa) (fun _ => ?_) fun e' => ?_
  ·cases hcr : (D i).q.crit
   ·rfl
   ·exfalso
    have cst : ∀ x : Wp, x.crit = true → x.st = .H := fun x h => by
     cases x with
     | lap ph => cases ph <;> simp_all [Wp.crit, Wp.st, Hk.st]
     | fin s => simp [Wp.crit] at h
    have hjj := I.jj
    rcases (show (i = 0 ∧ y = 1) ∨ (i = 1 ∧ y = 0) by omega) with ⟨rfl, rfl⟩ | ⟨rfl, rfl⟩
    ·rw [cst _ hcr, cst _ e, J_excl] at hjj; cases hjj
    ·rw [cst _ hcr, cst _ e, J_excl] at hjj; cases hjj
  ·have := (ow _ e').1; have := G.aL; omega
theorem IS.rmh (G : GeoH p n L0 B0) (I : IS p n L0 all Ld T Z B0 W gs w j D tag f0 d0 a st sm q hb wd m Ow c t) {i : Nat} (hi : i < j) (hC : Chg p n (D i).o (D i).q.crit w w') : RMH p n L0 hb w w' := by
 have ow : ∀ b, (D i).o = some b → L0 ≤ b ∧ hb ≠ some b := fun b e => I.owl i b (I.own i b hi e)
 have lo := I.lo
 refine ⟨hC.tape, hC.output, hC.size, hC.os, fun b hb' h1 h2 h3 => hC.block b (by omega) h2 h1 (fun e => absurd e h3) fun e => by have := (ow b e).1; omega, fun b e => ?_, hC.live, hC.wg⟩
 obtain ⟨h1, h2⟩ := I.hbl b e
 have := G.wL; have := G.mL; have := G.aL
 exact hC.block b h2 (fun e => by omega) (fun e => by omega) (fun e => by omega) fun e' => (ow b e').2 e
theorem RMH.kp (G : GeoH p n L0 B0) (h : RMH p n L0 hb w w') : KpH B0 w w' := ⟨h.tape, h.os, h.output, h.size, fun b hlt => by
 have := G.wB; have := G.mB; have := G.aB; have := G.wL
 exact h.block b (by omega) (by omega) (by omega) (by omega)⟩
theorem IS.worker (G : GeoH p n L0 B0) (hL : ∀ g w, Ld g w → g.status = .running) (I : IS p n L0 all Ld T Z B0 W gs w j D tag f0 d0 a st sm q hb wd m Ow c t)
  {i : Nat} (hi : i < j) {g g' : Goroutine} {es : Array Event} {x : WDH} {st' sm' : Int} {wd' : Wd} {m' : Bool} {Ow' : Nat → Nat → Prop} {c' : List Int} (hg : gs[p.K + i]? = some g) (hgo : stepG Try.prog false g w = .go g' w' es)
  (hC : Chg p n (D i).o (D i).q.crit w w') (hs : WSH (p.x hb i) n i x g' w')
  (hmid : MidH (p.w hb) Ow' w'.heap.size j (tokD (upd D i x)) (t ++ MemOp.ofEvents (p.K + i) g.frame.fn g.frame.place es)) (hdeaf : deafBehind (D i).deaf es = x.deaf)
  (hrel : x.q.stage ≤ 6 → ∃ r, Gone p.Wg (p.K + i) (t ++ MemOp.ofEvents (p.K + i) g.frame.fn g.frame.place es) r)
  (hwg : WgAt 108 p.Wg w' st' sm') (hmode : ∀ tag', (tag' = tag ∨ (tag = .blk ∧ tag' = .w3)) → (mayWake Try.prog g = true → g'.status = .running → tag' ≠ .blk) → Lk.Mode j (upd (fun y => md (D y)) i (md x)) tag' st' sm')
  (hmu : MuIs p n w' wd' m') (hjj : J (upd D i x 0).q.st (upd D i x 1).q.st wd' m' = true) (hcl : c'.length = n) (hal : tokD (upd D i x) = none → AlIs p c' w') (hcr : ∀ y, y < 2 → (upd D i x y).q.crit = true → (upd D i x y).c = c')
  (hct : ((upd D i x 0).rest ++ (upd D i x 1).rest).foldl inc c' = T) (hne : ∀ ph, x.q = .lap ph → ph.pre = true → x.rest ≠ [])
  (hsz : w'.heap.size + (alft (upd D i x 0) + alft (upd D i x 1)) = w.heap.size + (alft (D 0) + alft (D 1))) (hown : ∀ b, x.o = some b → Ow' i b) (howm : ∀ y b, Ow y b → Ow' y b) (howl : ∀ y b, Ow' y b → L0 ≤ b ∧ hb ≠ some b)
  (hacq : tag = .ld → AcqH p.Wg p.K j (t ++ MemOp.ofEvents (p.K + i) g.frame.fn g.frame.place es))
  (hwake : m' = m ∨ m' = false ∨ (mayWake Try.prog g = true ∧ g'.status = .running)) (hblk : x.blocked → m' = false)
  (hdep : M1 tag wd' (upd D i x) ≤ M1 tag wd D) (hdx : ∀ ph, x.q = .lap ph → M1 tag wd' (upd D i x) ≤ x.k)
  (hlt : M1 tag wd' (upd D i x) < M1 tag wd D ∨ (x.fuel + 3 ≤ (D i).fuel) ∨ (x.fuel < (D i).fuel ∧ g'.status = .blocked)) :
  ∃ m₁ ops μ', runT Try.prog (crowd gs w sl) (p.K + i) = (.next m₁, ops) ∧ Lt2 μ' (M1 tag wd D, M2 D f0 p.K q) ∧ InvH p n L0 all Ld T Z B0 W μ' m₁ (t ++ ops) := by
 have h2 := I.two
 have hK := G.ok.k0
 have hR := I.rmh G hi hC
 obtain ⟨tag', f', hcs', hf', htag, hwk, hfn⟩ : ∃ tag' f', CSH p n L0 all Ld tag' j hb f' d0 (woken Try.prog g g' w' a) w' ∧ f' ≤ f0 + 1 ∧ (tag' = tag ∨ (tag = .blk ∧ tag' = .w3)) ∧ (mayWake Try.prog g = true → g'.status = .running → tag' ≠ .blk) ∧ (g'.status = .blocked → f' = f0) := by
  by_cases hgb : g'.status = .blocked
  ·have hw : woken Try.prog g g' w' a = a := by
    unfold Go.Conc.woken
    rw [if_neg (by simp [hgb])]
   exact ⟨tag, f0, by rw [hw]; exact I.cs.rely hR, by omega, .inl rfl, fun _ h => (by rw [hgb] at h; cases h), fun _ => rfl⟩
  ·obtain ⟨tag', f', h1, h3, h4, h5⟩ := I.cs.wokenBy hL hR g g'
   exact ⟨tag', f', h1, h3, h4, h5, fun h => absurd h hgb⟩
 have hi0 : (p.K + i == 0) = false := by simp; omega
 have hrun := runT_crowd_go (P := Try.prog) (sl := sl) (i := p.K + i) hg (by rw [hi0]; exact hgo)
 have hsz0 := I.size
 have hg0 : ∀ op ∈ MemOp.ofEvents (p.K + i) g.frame.fn g.frame.place es, op.g = p.K + i := ofEvents_g
 have oth : ∀ y, ∃ f, (y < j → y ≠ i → ∃ z, gs[p.K + y]? = some z ∧ WSH (p.x hb y) n y { D y with fuel := f } (woken Try.prog g g' w' z) w') ∧ (D y).fuel ≤ f ∧ f ≤ (D y).fuel + 1 ∧ (mayWake Try.prog g = true → g'.status = .running → y < j → y ≠ i → f ≠ 0) ∧ (¬ (y < j ∧ y ≠ i) → f = (D y).fuel) ∧ (g'.status = .blocked → f = (D y).fuel) := fun y => by
  by_cases hy : y < j ∧ y ≠ i
  ·obtain ⟨z, hz, hzs⟩ := I.wk y hy.1
   by_cases hgb : g'.status = .blocked
   ·have hw : woken Try.prog g g' w' z = z := by
     unfold Go.Conc.woken
     rw [if_neg (by simp [hgb])]
    exact ⟨(D y).fuel, fun _ _ => ⟨z, hz, by rw [hw]; exact hzs.rely (I.envO G hi hC hy.1 hy.2)⟩, Nat.le_refl _, by omega, fun _ h => (by rw [hgb] at h; cases h), fun _ => rfl, fun _ => rfl⟩
   ·obtain ⟨f, h1, h3, h4, h5, _⟩ := hzs.wokenBy (I.envO G hi hC hy.1 hy.2) g g'
    exact ⟨f, fun _ _ => ⟨z, hz, h1⟩, h3, h4, fun a b _ _ => h5 a b, fun h => absurd hy h, fun h => absurd h hgb⟩
  ·exact ⟨(D y).fuel, fun h1 h3 => absurd ⟨h1, h3⟩ hy, Nat.le_refl _, by omega, fun _ _ h1 h3 => absurd ⟨h1, h3⟩ hy, fun _ => rfl, fun _ => rfl⟩
 obtain ⟨F, hF⟩ := Classical.axiomOfChoice oth
 obtain ⟨D', hD'⟩ : ∃ D' : Nat → WDH, ∀ y, D' y = if y = i then x else { D y with fuel := F y } := ⟨_, fun _ => rfl⟩
 have hD'i : D' i = x := by rw [hD', if_pos rfl]
 have hD'n : ∀ y, y ≠ i → D' y = { D y with fuel := F y } := fun y h => by rw [hD', if_neg h]
 have eq : EqF (upd D i x) D' := fun y => by
  by_cases e : y = i
  ·subst e; exact ⟨x.fuel, by rw [hD'i, upd_same]⟩
  ·exact ⟨F y, by rw [hD'n y e, upd_ne D _ e]⟩
 have emd : (fun y => md (D' y)) = upd (fun y => md (D y)) i (md x) := by
  rw [← md_upd]; funext y; exact eq.md y
 have keyW : ∀ y, y < j → ∃ z, ((gs.map (woken Try.prog g g' w')).setIfInBounds (p.K + i) g')[p.K + y]? = some z ∧ WSH (p.x hb y) n y (D' y) z w' := fun y hy => by
  by_cases e : y = i
  ·subst e
   exact ⟨g', get_map_set_same _ _ _ (by omega), by rw [hD'i]; exact hs⟩
  ·obtain ⟨z, hz, hzs⟩ := (hF y).1 hy e
   exact ⟨_, by rw [get_map_set _ _ _ _ (by omega), hz]; rfl, by rw [hD'n y e]; exact hzs⟩
 have kb : KpH B0 w w' := hR.kp G
 have IS' : IS p n L0 all Ld T Z B0 W ((gs.map (woken Try.prog g g' w')).setIfInBounds (p.K + i) g') w' j D' tag' f' d0 (woken Try.prog g g' w' a) st' sm' q hb wd' m' Ow' c' (t ++ MemOp.ofEvents (p.K + i) g.frame.fn g.frame.place es) := by
  refine { a0 := by rw [get_map_set _ _ _ _ (by omega), I.a0]; rfl, cs := hcs', size := by simp [hsz0], old := fun y z h0 hy hz => ?_, wk := keyW, deaf0 := by rw [Deaf_other t (by omega) _ hg0, I.deaf0], deafW := fun y hy => ?_, rel := fun y hy hst => ?_, above := fun y hy => by rw [Deaf_other t (by omega) _ hg0]; exact I.above y hy, fresh := fun y hy => ?_, mid := by rw [eq.tok]; exact hmid, wg := hwg, mode := by rw [emd]; exact hmode tag' htag hwk, mu := hmu, jj := by rw [eq.q, eq.q]; exact hjj, cl := hcl, al := by rw [eq.tok]; exact hal, cr := fun y hy => by rw [eq.q, eq.c]; exact hcr y hy, ct := by rw [eq.rest, eq.rest]; exact hct, ne := fun y hy ph => ?_, sz := ?_, own := fun y b hy => ?_, owl := howl, hbl := fun b e => ⟨(I.hbl b e).1, Nat.lt_of_lt_of_le (I.hbl b e).2 hC.size⟩, hbj := I.hbj, acq := fun e => ?_, kp := I.kp.trans kb, live := hC.live I.live, lo := Nat.le_trans I.lo hC.size, bl := fun y hy hb' => ?_, dep := fun y hy ph => ?_ }
  ·rw [get_map_set _ _ _ _ (by omega)] at hz
   obtain ⟨z', hz', rfl⟩ := Option.map_eq_some_iff.1 hz
   have hq := I.old y z' h0 hy hz'
   rw [woken_quitsD hq, Deaf_other t (by omega) _ hg0]
   exact hq
  ·by_cases e : y = i
   ·subst e; rw [Deaf_own, I.deafW y hy, hD'i]; exact hdeaf
   ·rw [Deaf_other t (by omega) _ hg0, I.deafW y hy, hD'n y e]
  ·by_cases e : y = i
   ·subst e; rw [hD'i] at hst; exact hrel hst
   ·rw [hD'n y e] at hst
    obtain ⟨r, hr⟩ := I.rel y hy hst
    exact ⟨r, hr.app (hr.1.appOther hg0 (by omega)) fun op hop hog => absurd ((hg0 op hop).symm.trans hog) (by omega)⟩
  ·have e : y ≠ i := by omega
   rw [hD'n y e, (hF y).2.2.2.2.1 (by omega)]
   exact I.fresh y hy
  ·by_cases e : y = i
   ·subst e; rw [hD'i]; exact hne ph
   ·rw [hD'n y e]; exact I.ne y hy ph
  ·rw [eq.alft, eq.alft]
   have := I.sz
   omega
  ·by_cases e : y = i
   ·subst e; rw [hD'i]; exact hown b
   ·rw [hD'n y e]; exact fun h => howm y b (I.own y b hy h)
  ·rcases htag with rfl | ⟨_, rfl⟩
   ·exact hacq e
   ·cases e
  ·by_cases e : y = i
   ·subst e; rw [hD'i] at hb'; exact hblk hb'
   ·rw [hD'n y e] at hb'
    have hf0 : F y = 0 := hb'.2
    have hfy : (D y).fuel = 0 := by have := (hF y).2.1; omega
    rcases hwake with rfl | h | ⟨h1, h3⟩
    ·exact I.bl y hy ⟨hb'.1, hfy⟩
    ·exact h
    ·by_cases hyj : y < j
     ·exact absurd hf0 ((hF y).2.2.2.1 h1 h3 hyj e)
     ·exfalso
      have := I.fresh y (by omega)
      obtain ⟨⟨sv, hsv⟩, _⟩ := hb'
      simp only [this, dFresh] at hsv
      split at hsv <;> cases hsv
  ·rw [eq.M1]
   have hph : phi tag' = phi tag := phi_retag htag
   have e1 : Hk.M1 tag' wd' (upd D i x) = Hk.M1 tag wd' (upd D i x) := by unfold Hk.M1; rw [hph]
   rw [e1]
   by_cases e : y = i
   ·subst e; rw [hD'i]; exact hdx ph
   ·rw [hD'n y e]; exact fun h => Nat.le_trans hdep (I.dep y hy ph h)
 refine ⟨_, _, (M1 tag' wd' D', M2 D' f' p.K q), hrun, ?_, _, w', sl, j, D', tag', f', d0, _, st', sm', q, hb, wd', m', Ow', c', rfl, IS', rfl⟩
 have hph : phi tag' = phi tag := phi_retag htag
 have e1 : Hk.M1 tag' wd' D' = Hk.M1 tag wd' (upd D i x) := by rw [eq.M1]; unfold Hk.M1; rw [hph]
 rw [e1]
 rcases Nat.lt_or_ge (M1 tag wd' (upd D i x)) (M1 tag wd D) with h | h
 ·exact Prod.Lex.left _ _ h
 ·rw [show M1 tag wd' (upd D i x) = M1 tag wd D by omega]
  refine Prod.Lex.right _ ?_
  have hfi : ∀ y, y ≠ i → (D' y).fuel = F y := fun y e => by rw [hD'n y e]
  have hxi : (D' i).fuel = x.fuel := by rw [hD'i]
  have f0' := (hF 0).2.2.1
  have f1' := (hF 1).2.2.1
  unfold M2
  rcases hlt with h' | h' | ⟨h', h''⟩
  ·omega
  ·rcases (show i = 0 ∨ i = 1 by omega) with rfl | rfl
   ·rw [hxi, hfi 1 (by omega)]; omega
   ·rw [hxi, hfi 0 (by omega)]; omega
  ·have g0 := (hF 0).2.2.2.2.2 h''
   have g1 := (hF 1).2.2.2.2.2 h''
   have hff := hfn h''
   rcases (show i = 0 ∨ i = 1 by omega) with rfl | rfl
   ·rw [hxi, hfi 1 (by omega)]; omega
   ·rw [hxi, hfi 0 (by omega)]; omega
end
end Go.Proofs.Ytnikfjfcbpeieaa.Hk
end
section
namespace Go.Proofs.Ytnikfjfcbpeieaa.Hk
open Go Go.Conc Go.Proofs.Ytnikfjfcbpeieaa.Lk
open Go.ConcN (sumTo upd sumTo_upd upd_ne upd_same sumTo_congr RelBy get_map_set get_map_set_same)
open Go.ConcR (KK wgBlock WgAt stA smA rd wr)
set_option linter.unusedVariables false
set_option linter.unusedSimpArgs false
theorem Mv.pre {p p' : Ph} {w w' : Wd} {m m' : Bool} (h : Mv p w m p' w' m') (hm : p.mu = true) : p'.pre = p.pre := by
 cases h <;> first | rfl | (exact absurd hm (by decide)) | (simp only [Hk.hd]; split <;> rfl)
theorem Mv.made {p p' : Ph} {w w' : Wd} {m m' : Bool} (h : Mv p w m p' w' m') (hm : p.mu = true) : p'.made = p.made := by
 cases h <;> first | rfl | (exact absurd hm (by decide)) | (simp only [Hk.hd]; split <;> rfl)
theorem Mv.up {p p' : Ph} {w w' : Wd} {m m' : Bool} (h : Mv p w m p' w' m') (hm : p.mu = true) : (p = .u0 ∧ p.up = 1 ∧ p'.up = 0) ∨ (p ≠ .u0 ∧ p'.up = p.up) := by
 cases h <;> first | (right; exact ⟨by simp, rfl⟩) | (left; exact ⟨rfl, rfl, rfl⟩) | (exact absurd hm (by decide)) | (right; refine ⟨by simp, ?_⟩; simp only [Hk.hd]; split <;> rfl)
theorem Mv.crit {p p' : Ph} {w w' : Wd} {m m' : Bool} (h : Mv p w m p' w' m') (hm : p.mu = true) : (Wp.lap p).crit = false ∧ (Wp.lap p').crit = false := by
 cases h <;> first | exact ⟨rfl, rfl⟩ | (exact absurd hm (by decide)) | (refine ⟨rfl, ?_⟩; simp only [Hk.hd]; split <;> rfl)
theorem Mv.deaf {p p' : Ph} {w w' : Wd} {m m' : Bool} (h : Mv p w m p' w' m') (hm : p.mu = true) : ((p = .ld ∨ p = .ud) ∧ p.deaf = 0 ∧ p'.deaf = 1) ∨ (p = .le ∧ p.deaf = 1 ∧ p'.deaf = 0) ∨ (p ≠ .ld ∧ p ≠ .ud ∧ p ≠ .le ∧ p.deaf = 1 ∧ p'.deaf = 1) := by
 cases h <;> first
  | (exact absurd hm (by decide))
  | (left; exact ⟨.inl rfl, rfl, rfl⟩)
  | (left; exact ⟨.inr rfl, rfl, rfl⟩)
  | (right; left; exact ⟨rfl, rfl, rfl⟩)
  | (right; right; exact ⟨by simp, by simp, by simp, rfl, rfl⟩)
  | (right; right; refine ⟨by simp, by simp, by simp, rfl, ?_⟩; simp only [Hk.hd]; split <;> rfl)
theorem foldl_inc_comm (c : List Int) (a b : Int) : inc (inc c a) b = inc (inc c b) a := by
 unfold inc
 by_cases h : a.toNat = b.toNat
 ·rw [h]
 ·rw [List.set_comm _ _ h]
  simp [List.getD, List.getElem?_set, h, Ne.symm h]
theorem foldl_inc_cons (l : List Int) : ∀ (c : List Int) (b : Int), l.foldl inc (inc c b) = inc (l.foldl inc c) b := by
 induction l with
 | nil => exact fun _ _ => rfl
 | cons a l ih =>
  intro c b
  simp only [List.foldl_cons]
  rw [foldl_inc_comm, ih]
theorem foldl_inc_mid (l r : List Int) (c : List Int) (b : Int) : (l ++ b :: r).foldl inc c = (l ++ r).foldl inc (inc c b) := by
 rw [List.foldl_append, List.foldl_append, List.foldl_cons, foldl_inc_cons l, foldl_inc_cons r]
section
variable {p : Pl} {n L0 : Nat} {all : Nat → List Int} {Ld : Goroutine → World → Prop} {T : List Int} {Z B0 : Nat} {W : World}
 {gs : Array Goroutine} {w w' : World} {sl : Option (Nat × Nat)} {j : Nat} {D : Nat → WDH} {tag : CTag} {f0 d0 : Nat} {a : Goroutine} {st sm : Int} {q : Nat → Nat} {hb : Option Nat} {wd : Wd} {m : Bool} {Ow : Nat → Nat → Prop} {c : List Int} {t : Trace}
theorem liveX {i : Nat} : LiveH (p.x hb i) n w ↔ LiveH p n w := by
 obtain ⟨eS, eW, eM, eA, eK⟩ := px_w p hb i
 constructor
 ·intro l
  exact ⟨by have := l.wg; rwa [eW] at this, by have := l.mu; unfold MuIs at *; rwa [eM, eA] at this, by have := l.al; unfold AlIs at *; rwa [eA] at this⟩
 ·intro l
  exact ⟨by rw [eW]; exact l.wg, by have := l.mu; unfold MuIs at *; rwa [eM, eA], by have := l.al; unfold AlIs at *; rwa [eA]⟩
theorem muX {i : Nat} {wd : Wd} {m : Bool} : MuIs (p.x hb i) n w wd m ↔ MuIs p n w wd m := by
 obtain ⟨eS, eW, eM, eA, eK⟩ := px_w p hb i
 unfold MuIs
 rw [eM, eA]
theorem alX {i : Nat} {c : List Int} : AlIs (p.x hb i) c w ↔ AlIs p c w := by
 obtain ⟨eS, eW, eM, eA, eK⟩ := px_w p hb i
 unfold AlIs
 rw [eA]
theorem noRelX {i : Nat} {x : MemAct} : NoRel (p.x hb i) x ↔ NoRel (p.w hb) x := by
 obtain ⟨eS, eW, eM, eA, eK⟩ := px_w p hb i
 unfold NoRel
 rw [eW, eM]
 exact Iff.rfl
theorem okK_of {i : Nat} (hi : i < 2) {o : Option Nat} {h : Bool} {B : Nat} {e : Event} {tok : Option Nat} (ok : OkE (p.x hb i) i o h B e) (ht : h = true → tok = some i) (ho : ∀ b, o = some b → Ow i b) : OkK (p.w hb) Ow B i tok (.ofEvent e) := by
 obtain ⟨eS, eW, eM, eA, eK⟩ := px_w p hb i
 obtain ⟨h1, h2, h3, _, _⟩ := ok
 refine ⟨fun y hy => ?_, noRelX.1 h2, h3⟩
 rcases h1 y hy with ⟨⟨ad, e1, hr⟩, h4, h5⟩ | ⟨⟨ad, e1, hr⟩, h4, h5⟩ | ⟨⟨ad, h4, e1⟩, h5⟩
 ·refine .inr (.inl ⟨⟨ad, e1, ?_⟩, h4, h5⟩)
  rw [eM] at hr
  exact hr.imp (px_rb p hb i hi _).1 id
 ·rw [eA] at hr
  exact .inr (.inr (.inl ⟨⟨ad, e1, hr⟩, ht h4, h5⟩))
 ·exact .inr (.inr (.inr ⟨⟨ad, e1, ho _ h4⟩, h5⟩))
theorem crit_st {x : Wp} (h : x.crit = true) : x.st = .H := by
 cases x with
 | lap ph => cases ph <;> simp_all [Wp.crit, Wp.st, Hk.st]
 | fin s => simp [Wp.crit] at h
theorem IS.other (I : IS p n L0 all Ld T Z B0 W gs w j D tag f0 d0 a st sm q hb wd m Ow c t) {i y : Nat} (hi : i < 2) (hy : y < 2) (hne : y ≠ i) (h : (D i).q.st = .H) : (D y).q.crit = false := by
 cases e : (D y).q.crit
 ·rfl
 ·exfalso
  have hjj := I.jj
  have := crit_st e
  rcases (show (i = 0 ∧ y = 1) ∨ (i = 1 ∧ y = 0) by omega) with ⟨rfl, rfl⟩ | ⟨rfl, rfl⟩
  ·rw [h, this, J_excl] at hjj; cases hjj
  ·rw [h, this, J_excl] at hjj; cases hjj
theorem tok_of {D : Nat → WDH} {i : Nat} (hi : i < 2) (h : (D i).q.crit = true) (ho : ∀ y, y < 2 → y ≠ i → (D y).q.crit = false) : tokD D = some i := by
 unfold tokD
 rcases (show i = 0 ∨ i = 1 by omega) with rfl | rfl
 ·rw [if_pos h]
 ·rw [if_neg (by rw [ho 0 (by omega) (by omega)]; simp), if_pos h]
theorem tok_none {D : Nat → WDH} (h : ∀ y, y < 2 → (D y).q.crit = false) : tokD D = none := by
 unfold tokD
 rw [if_neg (by rw [h 0 (by omega)]; simp), if_neg (by rw [h 1 (by omega)]; simp)]
theorem tok_upd (D : Nat → WDH) (i : Nat) (x : WDH) (h : x.q.crit = (D i).q.crit) : tokD (upd D i x) = tokD D := by
 unfold tokD
 have : ∀ y, (upd D i x y).q.crit = (D y).q.crit := fun y => by
  by_cases e : y = i
  ·subst e; rw [upd_same, h]
  ·rw [upd_ne D _ e]
 rw [this, this]
theorem IS.tokI (I : IS p n L0 all Ld T Z B0 W gs w j D tag f0 d0 a st sm q hb wd m Ow c t) {i : Nat} (hi : i < 2) (h : (D i).q.crit = true) : tokD D = some i :=
 tok_of hi h fun y hy hne => I.other hi hy hne (crit_st h)
theorem st_upd (D : Nat → WDH) (i : Nat) (x : WDH) (h : x.q.st = (D i).q.st) (y : Nat) : (upd D i x y).q.st = (D y).q.st := by
 by_cases e : y = i
 ·subst e; rw [upd_same, h]
 ·rw [upd_ne D _ e]
theorem J_upd {i : Nat} (hi : i < 2) {x : WDH} {wd' : Wd} {m' : Bool} (h : ∀ b, J (D i).q.st b wd m = true → J x.q.st b wd' m' = true) (hj : J (D 0).q.st (D 1).q.st wd m = true) : J (upd D i x 0).q.st (upd D i x 1).q.st wd' m' = true := by
 rcases (show i = 0 ∨ i = 1 by omega) with rfl | rfl
 ·rw [upd_same, upd_ne D _ (show (1 : Nat) ≠ 0 by decide)]
  exact h _ hj
 ·rw [upd_same, upd_ne D _ (show (0 : Nat) ≠ 1 by decide), J.symm]
  rw [J.symm] at hj
  exact h _ hj
theorem okwI (hj : J (D 0).q.st (D 1).q.st wd m = true) {i : Nat} (hi : i < 2) : okw (D i).q.st wd m = true := by
 rcases (show i = 0 ∨ i = 1 by omega) with rfl | rfl
 ·exact okw_of hj
 ·rw [J.symm] at hj; exact okw_of hj
theorem M1_upd {i : Nat} (hi : i < 2) (x : WDH) (wd' : Wd) (h : ∀ y, y < 2 → y ≠ i → phi tag + 100 * wd'.lv + lenH wd' x + lenH wd' (D y) < phi tag + 100 * wd.lv + lenH wd (D i) + lenH wd (D y)) : M1 tag wd' (upd D i x) < M1 tag wd D := by
 unfold M1
 rcases (show i = 0 ∨ i = 1 by omega) with rfl | rfl
 ·rw [upd_same, upd_ne D _ (show (1 : Nat) ≠ 0 by decide)]
  have := h 1 (by omega) (by omega); omega
 ·rw [upd_same, upd_ne D _ (show (0 : Nat) ≠ 1 by decide)]
  have := h 0 (by omega) (by omega); omega
theorem M1_same {i : Nat} (hi : i < 2) (x : WDH) (h : lenH wd x = lenH wd (D i)) : M1 tag wd (upd D i x) = M1 tag wd D := by
 unfold M1
 rcases (show i = 0 ∨ i = 1 by omega) with rfl | rfl
 ·rw [upd_same, upd_ne D _ (show (1 : Nat) ≠ 0 by decide), h]
 ·rw [upd_same, upd_ne D _ (show (0 : Nat) ≠ 1 by decide), h]
theorem alft_upd {i : Nat} (hi : i < 2) (x : WDH) : alft (upd D i x 0) + alft (upd D i x 1) + alft (D i) = alft (D 0) + alft (D 1) + alft x := by
 rcases (show i = 0 ∨ i = 1 by omega) with rfl | rfl
 ·rw [upd_same, upd_ne D _ (show (1 : Nat) ≠ 0 by decide)]; omega
 ·rw [upd_same, upd_ne D _ (show (0 : Nat) ≠ 1 by decide)]; omega
theorem rest_upd {i : Nat} (hi : i < 2) {x : WDH} (h : x.rest = (D i).rest) : (upd D i x 0).rest ++ (upd D i x 1).rest = (D 0).rest ++ (D 1).rest := by
 rcases (show i = 0 ∨ i = 1 by omega) with rfl | rfl
 ·rw [upd_same, upd_ne D _ (show (1 : Nat) ≠ 0 by decide), h]
 ·rw [upd_same, upd_ne D _ (show (0 : Nat) ≠ 1 by decide), h]
theorem rho_wd (wd wd' : Wd) (d : WDH) : lenH wd' d ≤ lenH wd d + 23 := by
 unfold lenH
 split
 ·have := rho_le wd' ‹Ph›; omega
 ·omega
theorem lenH_pos (wd : Wd) (d : WDH) (ph : Ph) (h : d.q = .lap ph) : 1 ≤ lenH wd d := by
 unfold lenH
 rw [h]
 have : 1 ≤ rho wd ph := by cases ph <;> simp only [rho] <;> (try split) <;> omega
 simp only
 omega
theorem IS.idle (G : GeoH p n L0 B0) (hL : ∀ g w, Ld g w → g.status = .running) (I : IS p n L0 all Ld T Z B0 W gs w j D tag f0 d0 a st sm q hb wd m Ow c t)
  {i : Nat} (hi : i < j) {g g' : Goroutine} {es : Array Event} {x : WDH} {f : Nat} (hg : gs[p.K + i]? = some g) (hgo : stepG Try.prog false g w = .go g' w' es) (hx : x = { D i with fuel := f }) (hf : f + 3 ≤ (D i).fuel) (hf0 : f ≠ 0)
  (hD : DoH (p.x hb i) n i (D i).o (D i).q.crit w w' es) (hs : WSH (p.x hb i) n i x g' w') (hst7 : (D i).q.stage = 7) (hnc : (D i).q.crit = false → (D i).o = none ∨ True) :
  ∃ m₁ ops μ', runT Try.prog (crowd gs w sl) (p.K + i) = (.next m₁, ops) ∧ Lt2 μ' (M1 tag wd D, M2 D f0 p.K q) ∧ InvH p n L0 all Ld T Z B0 W μ' m₁ (t ++ ops) := by
 have h2 := I.two
 obtain ⟨eS, eW, eM, eA, eK⟩ := px_w p hb i
 have how : ∀ b, (D i).o = some b → b ≠ p.Wg ∧ b ≠ p.Mu ∧ b ≠ p.Al := fun b e => by
  obtain ⟨_, _, h1, h3, h4, _⟩ := I.mid.ow i b (I.own i b hi e)
  exact ⟨h1, h3, h4⟩
 have bW : w'.heap[p.Wg]? = w.heap[p.Wg]? := hD.block p.Wg (fun e => (how _ e).1 rfl) fun e => absurd (eA ▸ e) G.ok.wa
 have bM : w'.heap[p.Mu]? = w.heap[p.Mu]? := hD.block p.Mu (fun e => (how _ e).2.1 rfl) fun e => absurd (eA ▸ e) G.ok.ma
 have hC : Chg p n (D i).o (D i).q.crit w w' := ⟨hD.tape, hD.output, by rw [hD.os]; exact .refl _, Nat.le_of_eq hD.size.symm, fun b _ _ _ h1 h3 => hD.block b h3 (fun e => h1 (eA ▸ e)), fun l => liveX.1 (hD.live (liveX.2 l)), fun ⟨s, u, h⟩ => ⟨s, u, bW.trans h⟩⟩
 have eD : ∀ y, (upd D i x y).q = (D y).q ∧ (upd D i x y).rest = (D y).rest ∧ (upd D i x y).c = (D y).c := fun y => by
  by_cases e : y = i
  ·subst e; rw [upd_same, hx]; exact ⟨rfl, rfl, rfl⟩
  ·rw [upd_ne D _ e]; exact ⟨rfl, rfl, rfl⟩
 have etok : tokD (upd D i x) = tokD D := by unfold tokD; rw [(eD 0).1, (eD 1).1]
 have eal : ∀ y, alft (upd D i x y) = alft (D y) := fun y => by unfold alft; rw [(eD y).1, (eD y).2.1]
 have eM1 : M1 tag wd (upd D i x) = M1 tag wd D := by unfold M1 lenH; rw [(eD 0).1, (eD 0).2.1, (eD 1).1, (eD 1).2.1]
 have emd : upd (fun y => md (D y)) i (md x) = fun y => md (D y) := by
  rw [← md_upd]; funext y; unfold md; rw [(eD y).1]
 have hnd : ∀ e ∈ es, e.loc ≠ .mark .disable ∧ e.loc ≠ .mark .enable := fun e he => (hD.ev e he).2.2.2
 have hmid : MidH (p.w hb) Ow w'.heap.size j (tokD D) (t ++ MemOp.ofEvents (p.K + i) g.frame.fn g.frame.place es) := by
  rw [hD.size]
  refine I.mid.appW (I.okw G) hi ofEvents_g fun op hop => ?_
  obtain ⟨e, he, rfl⟩ := Go.Conc.mem_ofEvents hop
  have := hD.ev e he
  rw [hD.size] at this
  exact okK_of (by omega) this (fun hc => I.tokI (by omega) hc) fun b e => I.own i b hi e
 refine I.worker G hL hi (x := x) (wd' := wd) (m' := m) (Ow' := Ow) (c' := c) hg hgo hC hs (by rw [etok]; exact hmid) (by rw [hx]; exact deafBehind_still hnd _) (fun h => by rw [hx] at h; simp only at h; omega) (show WgAt 108 p.Wg w' st sm from bW.trans I.wg) (fun tag' e _ => by rw [emd]; exact I.mode.retag e)
  (show MuIs p n w' wd m from bM.trans I.mu) (by rw [(eD 0).1, (eD 1).1]; exact I.jj) I.cl (fun h => ?_) (fun y hy => by rw [(eD y).1, (eD y).2.2]; exact I.cr y hy) (by rw [(eD 0).2.1, (eD 1).2.1]; exact I.ct) (fun ph h1 h3 => by rw [hx] at h1 ⊢; exact I.ne i (by omega) ph h1 h3)
  (by rw [eal, eal, hD.size]) (fun b h => by rw [hx] at h; exact I.own i b hi h) (fun _ _ h => h) I.owl (fun e => ?_) (.inl rfl) (fun h => ?_) (Nat.le_of_eq eM1) (fun ph h => by rw [eM1, hx]; rw [hx] at h; exact I.dep i hi ph h) (.inr (.inl (by rw [hx]; exact hf)))
 ·rw [etok] at h
  have hcr : (D i).q.crit = false := by
   cases e : (D i).q.crit
   ·rfl
   ·rw [I.tokI (by omega) e] at h; cases h
  exact (hD.block p.Al (fun e => (how _ e).2.2 rfl) fun _ => hcr).trans (I.al h)
 ·exfalso
  have := I.mode.ldq e i hi
  simp only [md] at this
  omega
 ·exfalso
  obtain ⟨_, h0⟩ := h
  rw [hx] at h0
  exact hf0 h0
end
end Go.Proofs.Ytnikfjfcbpeieaa.Hk
end
section
namespace Go.Proofs.Ytnikfjfcbpeieaa.Hk
open Go Go.Conc Go.Proofs.Ytnikfjfcbpeieaa.Lk
open Go.ConcN (sumTo upd sumTo_upd upd_ne upd_same sumTo_congr RelBy get_map_set get_map_set_same)
open Go.ConcR (KK wgBlock WgAt stA smA rd wr)
set_option linter.unusedVariables false
set_option linter.unusedSimpArgs false
theorem heap_push_old (w : World) (ob : Obj) {b : Nat} (h : b < w.heap.size) : (w.alloc ob).heap[b]? = w.heap[b]? := by
 show (w.heap.push ob)[b]? = _
 rw [Array.getElem?_push, if_neg (by omega)]
theorem heap_push_size (w : World) (ob : Obj) : (w.alloc ob).heap.size = w.heap.size + 1 := Array.size_push ob
theorem LiveH.push {p : Pl} {n : Nat} {w : World} (l : LiveH p n w) (ob : Obj) : LiveH p n (w.alloc ob) := by
 obtain ⟨⟨a, c, e⟩, ⟨wd, m, e1⟩, ⟨x, hx, e2⟩⟩ := l
 have key : ∀ (b : Nat) (z : Obj), w.heap[b]? = some z → (w.alloc ob).heap[b]? = some z := fun b z h => (heap_push_old w ob (Array.getElem?_eq_some_iff.1 h).1).trans h
 exact ⟨⟨a, c, key _ _ e⟩, ⟨wd, m, key _ _ e1⟩, ⟨x, hx, key _ _ e2⟩⟩
section
variable {p : Pl} {n L0 : Nat} {all : Nat → List Int} {Ld : Goroutine → World → Prop} {T : List Int} {Z B0 : Nat} {W : World}
 {gs : Array Goroutine} {w w' : World} {sl : Option (Nat × Nat)} {j : Nat} {D : Nat → WDH} {tag : CTag} {f0 d0 : Nat} {a : Goroutine} {st sm : Int} {q : Nat → Nat} {hb : Option Nat} {wd : Wd} {m : Bool} {Ow : Nat → Nat → Prop} {c : List Int} {t : Trace}
 {i : Nat} {g : Goroutine} {rest c0 : List Int} {ph : Ph} {fuel k : Nat} {o : Option Nat}
def Out (p : Pl) (n L0 : Nat) (all : Nat → List Int) (Ld : Goroutine → World → Prop) (T : List Int) (Z B0 : Nat) (W : World) (gs : Array Goroutine) (w : World) (sl : Option (Nat × Nat)) (D : Nat → WDH) (tag : CTag) (f0 : Nat) (q : Nat → Nat) (wd : Wd) (t : Trace) (i : Nat) : Prop :=
 ∃ m₁ ops μ', runT Try.prog (crowd gs w sl) (p.K + i) = (.next m₁, ops) ∧ Lt2 μ' (M1 tag wd D, M2 D f0 p.K q) ∧ InvH p n L0 all Ld T Z B0 W μ' m₁ (t ++ ops)
theorem mode7 (I : IS p n L0 all Ld T Z B0 W gs w j D tag f0 d0 a st sm q hb wd m Ow c t) (hq : (D i).q.stage = 7) {x : WDH} (hx : x.q.stage = 7) (tag' : CTag) (e : tag' = tag ∨ (tag = .blk ∧ tag' = .w3)) : Lk.Mode j (upd (fun y => md (D y)) i (md x)) tag' st sm :=
 (I.mode.retag e).same fun y => by
  by_cases h : y = i
  ·subst h; rw [upd_same]; simp only [md, hx, hq]
  ·rw [upd_ne _ _ h]
theorem no_ld (I : IS p n L0 all Ld T Z B0 W gs w j D tag f0 d0 a st sm q hb wd m Ow c t) (hi : i < j) (hq : (D i).q.stage = 7) {P : Prop} (e : tag = .ld) : P := by
 exfalso
 have := I.mode.ldq e i hi
 simp only [md] at this
 omega
theorem sil_mid {Ow' : Nat → Nat → Prop} {B : Nat} {tok : Option Nat} {es : Array Event} {fn : FuncId} {pos : String} {x : Nat} {hbo : Option Nat} (h : MidH (p.w hbo) Ow' B j tok t) (hs : ∀ e ∈ es, (MemAct.ofEvent e).touch? = none ∧ NoRel (p.w hbo) (.ofEvent e) ∧ (MemAct.ofEvent e).low B) : MidH (p.w hbo) Ow' B j tok (t ++ MemOp.ofEvents x fn pos es) := by
 refine h.appMute (fun op hop => ?_) (fun op hop => ?_) (fun op hop => ?_) <;> obtain ⟨e, he, rfl⟩ := Go.Conc.mem_ofEvents hop
 ·exact (hs e he).1
 ·exact (hs e he).2.1
 ·exact (hs e he).2.2
theorem one_op (x : Nat) (fn : FuncId) (pos : String) (mk : Mark) (h : ∀ ad, mk ≠ .read ad ∧ mk ≠ .write ad) : MemOp.ofEvents x fn pos #[Go.ConcR.mk mk] = #[{ g := x, fn, pos, act := .mark mk }] := by
 rw [ofEvents_eq]; simp [Go.ConcR.ofEvent_mk]
theorem IS.st_al (G : GeoH p n L0 B0) (hL : ∀ g w, Ld g w → g.status = .running) (I : IS p n L0 all Ld T Z B0 W gs w j D tag f0 d0 a st sm q hb wd m Ow c t) (hi : i < j) (hg : gs[p.K + i]? = some g)
  (hd : D i = ⟨rest, .lap .al, c0, fuel, Ph.al.deaf, o, k⟩) (h : AtH (p.x hb i) n i (k + 1) rest .al c0 g w) : Out p n L0 all Ld T Z B0 W gs w sl D tag f0 q wd t i := by
 have h2 := I.two
 obtain ⟨eS, eW, eM, eA, eK⟩ := px_w p hb i
 have hq : (D i).q = .lap .al := by rw [hd]
 have hrest : (D i).rest = rest := by rw [hd]
 have hne := I.ne i (by omega) .al hq rfl
 have hdep := I.dep i hi .al hq
 have hM : 1 ≤ M1 tag wd D := by
  have h1 := lenH_pos wd (D i) .al hq
  unfold M1
  rcases (show i = 0 ∨ i = 1 by omega) with rfl | rfl <;> omega
 have hk : (D i).k = k := by rw [hd]
 obtain ⟨k', rfl⟩ : ∃ k', k = k' + 1 := ⟨k - 1, by omega⟩
 obtain ⟨g', ob, es, hgo, hes, m2, hrun⟩ := StpH.al h rfl
 have lo := I.lo
 have hsz := heap_push_size w ob
 have hC : Chg p n (D i).o (D i).q.crit w (w.alloc ob) := ⟨rfl, rfl, .refl _, by rw [hsz]; omega, fun b hb' _ _ _ _ => heap_push_old w ob hb', fun l => l.push ob, fun ⟨s, u, e⟩ => ⟨s, u, (heap_push_old w ob (Array.getElem?_eq_some_iff.1 e).1).trans e⟩⟩
 have hx7 : ∀ y, (upd D i ⟨rest, .lap .ld, [], 3 * m2 + 1, 0, some w.heap.size, k'⟩ y).q.st = (D y).q.st := st_upd D i _ (by rw [hq]; rfl)
 have htok : tokD (upd D i ⟨rest, .lap .ld, [], 3 * m2 + 1, 0, some w.heap.size, k'⟩) = tokD D := tok_upd D i _ (by rw [hq]; rfl)
 have hlt : M1 tag wd (upd D i ⟨rest, .lap .ld, [], 3 * m2 + 1, 0, some w.heap.size, k'⟩) < M1 tag wd D := M1_upd (by omega) _ wd fun y _ _ => by
  have e1 : lenH wd (D i) = 1000 * (rest.length + 0) + 18 := by unfold lenH; rw [hq, hrest]; rfl
  have e2 : lenH wd ⟨rest, .lap .ld, [], 3 * m2 + 1, 0, some w.heap.size, k'⟩ = 1000 * (rest.length + 0) + 17 := rfl
  omega
 refine I.worker G hL hi (x := ⟨rest, .lap .ld, [], 3 * m2 + 1, 0, some w.heap.size, k'⟩) (wd' := wd) (m' := m) (Ow' := fun y b => Ow y b ∨ (y = i ∧ b = w.heap.size)) (c' := c) hg hgo hC (.lap (fun _ => rfl) hrun) ?_ ?_ (fun h => absurd h (by simp [Wp.stage]))
  (show WgAt 108 p.Wg _ st sm from (heap_push_old w ob (Array.getElem?_eq_some_iff.1 I.wg).1).trans I.wg) (fun tag' e _ => mode7 I (by rw [hq]; rfl) rfl tag' e) (show MuIs p n _ wd m from (heap_push_old w ob (Array.getElem?_eq_some_iff.1 I.mu).1).trans I.mu) (by rw [hx7, hx7]; exact I.jj) I.cl (fun ht => ?_) (fun y hy hcr => ?_)
  (by rw [rest_upd (by omega) hrest.symm]; exact I.ct) (fun ph' e _ => by rw [hrest] at hne; exact hne) ?_ (fun b e => .inr ⟨rfl, by simpa using e.symm⟩) (fun _ _ h => .inl h) (fun y b h => ?_) (no_ld I hi (by rw [hq]; rfl)) (.inl rfl) (fun ⟨⟨sv, e⟩, _⟩ => by cases e) (Nat.le_of_lt hlt) (fun ph' _ => by simp only; omega) (.inl hlt)
 ·rw [htok, hsz]
  refine sil_mid (I.mid.newOw hi (by omega) ⟨?_, ?_, ?_, ?_, fun y hy hr => ?_⟩) fun e he => ?_
  ·have := G.wL; show w.heap.size ≠ p.Wg; omega
  ·have := G.mL; show w.heap.size ≠ p.Mu; omega
  ·have := G.aL; show w.heap.size ≠ p.Al; omega
  ·intro hs; have := G.sB _ hs; have := G.wB; have := G.wL; omega
  ·rcases hr with hr | ⟨_, hr⟩
   ·have := G.rL y _ hr; omega
   ·have := (I.hbl _ hr).2; omega
  ·obtain ⟨h1, h3, h4, _⟩ := hes e he
   exact ⟨h1, noRelX.1 h3, h4⟩
 ·have : (D i).deaf = 0 := by rw [hd]; rfl
  rw [this]
  exact deafBehind_still (fun e he => (hes e he).2.2.2) 0
 ·rw [htok] at ht
  exact (heap_push_old w ob (Array.getElem?_eq_some_iff.1 (I.al ht)).1).trans (I.al ht)
 ·by_cases e : y = i
  ·subst e; rw [upd_same] at hcr; cases hcr
  ·rw [upd_ne D _ e] at hcr ⊢; exact I.cr y hy hcr
 ·have h3 := alft_upd (D := D) (i := i) (by omega) ⟨rest, .lap .ld, [], 3 * m2 + 1, 0, some w.heap.size, k'⟩
  have e1 : alft (D i) = rest.length - 0 := by unfold alft; rw [hq, hrest]; rfl
  have e2 : alft ⟨rest, .lap .ld, [], 3 * m2 + 1, 0, some w.heap.size, k'⟩ = rest.length - 1 := rfl
  have : rest.length ≠ 0 := by rw [hrest] at hne; exact fun e => hne (List.eq_nil_of_length_eq_zero e)
  omega
 ·rcases h with h | ⟨_, rfl⟩
  ·exact I.owl y b h
  ·exact ⟨lo, fun e => by have := (I.hbl _ e).2; omega⟩
theorem IS.st_la (G : GeoH p n L0 B0) (hL : ∀ g w, Ld g w → g.status = .running) (I : IS p n L0 all Ld T Z B0 W gs w j D tag f0 d0 a st sm q hb wd m Ow c t) (hi : i < j) (hg : gs[p.K + i]? = some g)
  (hd : D i = ⟨rest, .lap .la, c0, fuel, Ph.la.deaf, o, k⟩) (h : AtH (p.x hb i) n i (k + 1) rest .la c0 g w) : Out p n L0 all Ld T Z B0 W gs w sl D tag f0 q wd t i := by
 have h2 := I.two
 obtain ⟨eS, eW, eM, eA, eK⟩ := px_w p hb i
 have hq : (D i).q = .lap .la := by rw [hd]
 have hrest : (D i).rest = rest := by rw [hd]
 have hne := I.ne i (by omega) .la hq rfl
 rw [hrest] at hne
 obtain ⟨b0, r0, rfl⟩ : ∃ b0 r0, rest = b0 :: r0 := List.exists_cons_of_ne_nil hne
 have hdep := I.dep i hi .la hq
 have hM : 1 ≤ M1 tag wd D := by
  have h1 := lenH_pos wd (D i) .la hq
  unfold M1
  rcases (show i = 0 ∨ i = 1 by omega) with rfl | rfl <;> omega
 have hk : (D i).k = k := by rw [hd]
 obtain ⟨k', rfl⟩ : ∃ k', k = k' + 1 := ⟨k - 1, by omega⟩
 have hothc : ∀ y, y < 2 → y ≠ i → (D y).q.crit = false := fun y hy hne => I.other (by omega) hy hne (by rw [hq]; rfl)
 have htok : tokD D = none := tok_none fun y hy => by
  by_cases e : y = i
  ·subst e; rw [hq]; rfl
  ·exact hothc y hy e
 have hal := I.al htok
 obtain ⟨g', hgo, m2, hrun⟩ := StpH.la h rfl c (alX.2 hal) I.cl
 rw [eM] at hgo
 have hc' : (inc c b0).length = n := by rw [inc_length]; exact I.cl
 have htok' : tokD (upd D i ⟨r0, .lap .ur, inc c b0, 3 * m2 + 1, 0, none, k'⟩) = some i := tok_of (by omega) (by rw [upd_same]; rfl) fun y hy hne => by rw [upd_ne D _ hne]; exact hothc y hy hne
 have hlt : M1 tag wd (upd D i ⟨r0, .lap .ur, inc c b0, 3 * m2 + 1, 0, none, k'⟩) < M1 tag wd D := M1_upd (by omega) _ wd fun y _ _ => by
  have e1 : lenH wd (D i) = 1000 * ((b0 :: r0).length + 0) + 5 := by unfold lenH; rw [hq, hrest]; rfl
  have e2 : lenH wd ⟨r0, .lap .ur, inc c b0, 3 * m2 + 1, 0, none, k'⟩ = 1000 * (r0.length + 1) + 4 := rfl
  simp only [List.length_cons] at e1
  omega
 have hdf : Deaf t (p.K + i) = 0 := by rw [I.deafW i hi, hd]; rfl
 refine I.worker G hL hi (x := ⟨r0, .lap .ur, inc c b0, 3 * m2 + 1, 0, none, k'⟩) (wd' := wd) (m' := m) (Ow' := Ow) (c' := inc c b0) hg hgo (.refl w) (.lap (by simp) hrun) ?_ (by rw [hd]; rfl) (fun h => absurd h (by simp [Wp.stage]))
  I.wg (fun tag' e _ => mode7 I (by rw [hq]; rfl) rfl tag' e) I.mu (by rw [st_upd D i _ (by rw [hq]; rfl), st_upd D i _ (by rw [hq]; rfl)]; exact I.jj) hc' (fun ht => by rw [htok'] at ht; cases ht) (fun y hy hcr => ?_)
  ?_ (fun ph' e hp => by cases e; cases hp) ?_ (fun b e => by cases e) (fun _ _ h => h) I.owl (no_ld I hi (by rw [hq]; rfl)) (.inl rfl) (fun ⟨⟨sv, e⟩, _⟩ => by cases e) (Nat.le_of_lt hlt) (fun ph' _ => by simp only; omega) (.inl hlt)
 ·rw [htok', one_op _ _ _ _ (by simp)]
  have := I.mid
  rw [htok] at this
  refine this.acquire hi rfl rfl hdf ?_
  have := G.mL; have := I.lo
  show p.Mu < w.heap.size
  omega
 ·by_cases e : y = i
  ·subst e; rw [upd_same]
  ·rw [upd_ne D _ e] at hcr; rw [hothc y hy e] at hcr; cases hcr
 ·have hct := I.ct
  rcases (show i = 0 ∨ i = 1 by omega) with rfl | rfl
  ·rw [upd_same, upd_ne D _ (show (1 : Nat) ≠ 0 by decide)]
   rw [hrest] at hct
   rw [← hct]
   exact (foldl_inc_mid [] (r0 ++ (D 1).rest) c b0).symm
  ·rw [upd_same, upd_ne D _ (show (0 : Nat) ≠ 1 by decide)]
   rw [hrest] at hct
   rw [← hct]
   exact (foldl_inc_mid (D 0).rest r0 c b0).symm
 ·have h3 := alft_upd (D := D) (i := i) (by omega) ⟨r0, .lap .ur, inc c b0, 3 * m2 + 1, 0, none, k'⟩
  have e1 : alft (D i) = (b0 :: r0).length - 1 := by unfold alft; rw [hq, hrest]; rfl
  have e2 : alft ⟨r0, .lap .ur, inc c b0, 3 * m2 + 1, 0, none, k'⟩ = r0.length - 0 := rfl
  simp only [List.length_cons] at e1
  omega
theorem IS.st_ur (G : GeoH p n L0 B0) (hL : ∀ g w, Ld g w → g.status = .running) (I : IS p n L0 all Ld T Z B0 W gs w j D tag f0 d0 a st sm q hb wd m Ow c t) (hi : i < j) (hg : gs[p.K + i]? = some g)
  (hd : D i = ⟨rest, .lap .ur, c0, fuel, Ph.ur.deaf, o, k⟩) (h : AtH (p.x hb i) n i (k + 1) rest .ur c0 g w) : Out p n L0 all Ld T Z B0 W gs w sl D tag f0 q wd t i := by
 have h2 := I.two
 obtain ⟨eS, eW, eM, eA, eK⟩ := px_w p hb i
 have hq : (D i).q = .lap .ur := by rw [hd]
 have hrest : (D i).rest = rest := by rw [hd]
 have hdep := I.dep i hi .ur hq
 have hM : 1 ≤ M1 tag wd D := by
  have h1 := lenH_pos wd (D i) .ur hq
  unfold M1
  rcases (show i = 0 ∨ i = 1 by omega) with rfl | rfl <;> omega
 have hk : (D i).k = k := by rw [hd]
 obtain ⟨k', rfl⟩ : ∃ k', k = k' + 1 := ⟨k - 1, by omega⟩
 have hothc : ∀ y, y < 2 → y ≠ i → (D y).q.crit = false := fun y hy hne => I.other (by omega) hy hne (by rw [hq]; rfl)
 have htok : tokD D = some i := I.tokI (by omega) (by rw [hq]; rfl)
 obtain ⟨g', hgo, m2, hrun⟩ := StpH.ur h rfl
 rw [eM] at hgo
 have hcc : c0 = c := by have := I.cr i (by omega) (by rw [hq]; rfl); rw [hd] at this; exact this
 have hal : AlIs p c w := by rw [← hcc]; exact alX.1 (StpH.cnt h rfl)
 have htok' : tokD (upd D i ⟨rest, .lap .ud, [], 3 * m2 + 1, 0, none, k'⟩) = none := tok_none fun y hy => by
  by_cases e : y = i
  ·subst e; rw [upd_same]; rfl
  ·rw [upd_ne D _ e]; exact hothc y hy e
 have hlt : M1 tag wd (upd D i ⟨rest, .lap .ud, [], 3 * m2 + 1, 0, none, k'⟩) < M1 tag wd D := M1_upd (by omega) _ wd fun y _ _ => by
  have e1 : lenH wd (D i) = 1000 * (rest.length + 1) + 4 := by unfold lenH; rw [hq, hrest]; rfl
  have e2 : lenH wd ⟨rest, .lap .ud, [], 3 * m2 + 1, 0, none, k'⟩ = 1000 * (rest.length + 1) + 3 := rfl
  omega
 have hdf : Deaf t (p.K + i) = 0 := by rw [I.deafW i hi, hd]; rfl
 refine I.worker G hL hi (x := ⟨rest, .lap .ud, [], 3 * m2 + 1, 0, none, k'⟩) (wd' := wd) (m' := m) (Ow' := Ow) (c' := c) hg hgo (.refl w) (.lap (by simp) hrun) ?_ (by rw [hd]; rfl) (fun h => absurd h (by simp [Wp.stage]))
  I.wg (fun tag' e _ => mode7 I (by rw [hq]; rfl) rfl tag' e) I.mu (by rw [st_upd D i _ (by rw [hq]; rfl), st_upd D i _ (by rw [hq]; rfl)]; exact I.jj) I.cl (fun _ => hal) (fun y hy hcr => ?_)
  (by rw [rest_upd (by omega) hrest.symm]; exact I.ct) (fun ph' e hp => by cases e; cases hp) ?_ (fun b e => by cases e) (fun _ _ h => h) I.owl (no_ld I hi (by rw [hq]; rfl)) (.inl rfl) (fun ⟨⟨sv, e⟩, _⟩ => by cases e) (Nat.le_of_lt hlt) (fun ph' _ => by simp only; omega) (.inl hlt)
 ·rw [htok', one_op _ _ _ _ (by simp)]
  have := I.mid
  rw [htok] at this
  refine this.release rfl rfl hdf ?_
  have := G.mL; have := I.lo
  show p.Mu < w.heap.size
  omega
 ·by_cases e : y = i
  ·subst e; rw [upd_same] at hcr; cases hcr
  ·rw [upd_ne D _ e] at hcr; rw [hothc y hy e] at hcr; cases hcr
 ·have h3 := alft_upd (D := D) (i := i) (by omega) ⟨rest, .lap .ud, [], 3 * m2 + 1, 0, none, k'⟩
  have e1 : alft (D i) = rest.length - 0 := by unfold alft; rw [hq, hrest]; rfl
  have e2 : alft ⟨rest, .lap .ud, [], 3 * m2 + 1, 0, none, k'⟩ = rest.length - 0 := rfl
  omega
theorem IS.st_ue (G : GeoH p n L0 B0) (hL : ∀ g w, Ld g w → g.status = .running) (I : IS p n L0 all Ld T Z B0 W gs w j D tag f0 d0 a st sm q hb wd m Ow c t) (hi : i < j) (hg : gs[p.K + i]? = some g)
  (hd : D i = ⟨rest, .lap .ue, c0, fuel, Ph.ue.deaf, o, k⟩) (h : AtH (p.x hb i) n i (k + 1) rest .ue c0 g w) : Out p n L0 all Ld T Z B0 W gs w sl D tag f0 q wd t i := by
 have h2 := I.two
 obtain ⟨eS, eW, eM, eA, eK⟩ := px_w p hb i
 have hq : (D i).q = .lap .ue := by rw [hd]
 have hrest : (D i).rest = rest := by rw [hd]
 have hdep := I.dep i hi .ue hq
 have hM : 1 ≤ M1 tag wd D := by
  have h1 := lenH_pos wd (D i) .ue hq
  unfold M1
  rcases (show i = 0 ∨ i = 1 by omega) with rfl | rfl <;> omega
 have hk : (D i).k = k := by rw [hd]
 obtain ⟨k', rfl⟩ : ∃ k', k = k' + 1 := ⟨k - 1, by omega⟩
 obtain ⟨g', hgo, h0, h1⟩ := StpH.ue h rfl
 have e1 : lenH wd (D i) = 1000 * (rest.length + 0) + 19 := by unfold lenH; rw [hq, hrest]; rfl
 have ea : alft (D i) = rest.length - 0 := by unfold alft; rw [hq, hrest]; rfl
 have key : ∀ x : WDH, x.rest = rest → x.q.st = .N → x.q.crit = false → x.q.stage = 7 → x.deaf = 0 → x.o = none → lenH wd x < lenH wd (D i) → alft x = rest.length → (∀ sv, x.q ≠ .lap (.s1 sv)) → (∀ ph, x.q = .lap ph → ph.pre = true → x.rest ≠ []) → (∀ ph, x.q = .lap ph → x.k = k') → WSH (p.x hb i) n i x g' w → Out p n L0 all Ld T Z B0 W gs w sl D tag f0 q wd t i := by
  intro x x1 x2 x3 x4 x5 x6 x7 x8 x9 x10 x11 hs
  have hlt : M1 tag wd (upd D i x) < M1 tag wd D := M1_upd (by omega) _ wd fun y _ _ => by omega
  have htok : tokD (upd D i x) = tokD D := tok_upd D i _ (by rw [hq, x3]; rfl)
  refine I.worker G hL hi (x := x) (wd' := wd) (m' := m) (Ow' := Ow) (c' := c) hg hgo (.refl w) hs ?_ (by rw [hd, x5]; rfl) (fun h => absurd h (by omega))
   I.wg (fun tag' e _ => mode7 I (by rw [hq]; rfl) x4 tag' e) I.mu (by rw [st_upd D i _ (by rw [hq, x2]; rfl), st_upd D i _ (by rw [hq, x2]; rfl)]; exact I.jj) I.cl (fun ht => I.al (by rw [← htok]; exact ht)) (fun y hy hcr => ?_)
   (by rw [rest_upd (by omega) (x1.trans hrest.symm)]; exact I.ct) x10 ?_ (fun b e => by rw [x6] at e; cases e) (fun _ _ h => h) I.owl (no_ld I hi (by rw [hq]; rfl)) (.inl rfl) (fun ⟨⟨sv, e⟩, _⟩ => absurd e (x9 sv)) (Nat.le_of_lt hlt) (fun ph' e => by rw [x11 ph' e]; omega) (.inl hlt)
  ·rw [htok]
   exact sil_mid I.mid fun e he => by
    rw [Array.mem_singleton] at he
    subst he
    exact ⟨rfl, ⟨by simp [Go.ConcR.ofEvent_mk], by simp [Go.ConcR.ofEvent_mk]⟩, trivial⟩
  ·by_cases e : y = i
   ·subst e; rw [upd_same, x3] at hcr; cases hcr
   ·rw [upd_ne D _ e] at hcr ⊢; exact I.cr y hy hcr
  ·have h3 := alft_upd (D := D) (i := i) (by omega) x
   omega
 by_cases hr : rest = []
 ·obtain ⟨m2, hrun⟩ := h1 hr
  subst hr
  exact key ⟨[], .fin 7, [], 3 * m2 + 1, 0, none, k'⟩ rfl rfl rfl rfl rfl rfl (by rw [e1]; show 7 < _; simp) rfl (fun sv e => by cases e) (fun ph e => by cases e) (fun ph e => by cases e) (.r0 hrun)
 ·obtain ⟨m2, hrun⟩ := h0 hr
  exact key ⟨rest, .lap .al, [], 3 * m2 + 1, 0, none, k'⟩ rfl rfl rfl rfl rfl rfl (by rw [e1]; show 1000 * (rest.length + 0) + 18 < _; omega) (by show rest.length - 0 = _; omega) (fun sv e => by cases e) (fun _ _ _ => hr) (fun _ _ => rfl) (.lap (by simp) hrun)
end
end Go.Proofs.Ytnikfjfcbpeieaa.Hk
end
section
namespace Go.Proofs.Ytnikfjfcbpeieaa.Hk
open Go Go.Conc Go.Proofs.Ytnikfjfcbpeieaa.Lk
open Go.ConcN (sumTo upd sumTo_upd upd_ne upd_same sumTo_congr RelBy get_map_set get_map_set_same le_sumTo)
open Go.ConcR (KK wgBlock WgAt stA smA rd wr)
set_option linter.unusedVariables false
set_option linter.unusedSimpArgs false
section
variable {p : Pl} {n L0 : Nat} {all : Nat → List Int} {Ld : Goroutine → World → Prop} {T : List Int} {Z B0 : Nat} {W : World}
 {gs : Array Goroutine} {w w' : World} {sl : Option (Nat × Nat)} {j : Nat} {D : Nat → WDH} {tag : CTag} {f0 d0 : Nat} {a : Goroutine} {st sm : Int} {q : Nat → Nat} {hb : Option Nat} {wd : Wd} {m : Bool} {Ow : Nat → Nat → Prop} {c : List Int} {t : Trace}
 {i : Nat} {g : Goroutine} {rest c0 : List Int} {ph : Ph} {fuel k : Nat} {o : Option Nat}
theorem mu_crit {ph : Ph} (h : ph.mu = true) : (Wp.lap ph).crit = false := by cases ph <;> first | rfl | cases h
theorem IS.st_mu (G : GeoH p n L0 B0) (hL : ∀ g w, Ld g w → g.status = .running) (I : IS p n L0 all Ld T Z B0 W gs w j D tag f0 d0 a st sm q hb wd m Ow c t) (hi : i < j) (hg : gs[p.K + i]? = some g) (hmu : ph.mu = true) (hf : fuel ≠ 0)
  (hd : D i = ⟨rest, .lap ph, c0, fuel, ph.deaf, o, k⟩) (hR : ∀ w₁, EnvH (p.x hb i) n i o false w w₁ → AtH (p.x hb i) n i (k + 1) rest ph c0 g w₁) : Out p n L0 all Ld T Z B0 W gs w sl D tag f0 q wd t i := by
 have h2 := I.two
 obtain ⟨eS, eW, eM, eA, eK⟩ := px_w p hb i
 have hq : (D i).q = .lap ph := by rw [hd]
 have hrest : (D i).rest = rest := by rw [hd]
 have hdep := I.dep i hi ph hq
 have hM : 1 ≤ M1 tag wd D := by
  have h1 := lenH_pos wd (D i) ph hq
  unfold M1
  rcases (show i = 0 ∨ i = 1 by omega) with rfl | rfl <;> omega
 have hk : (D i).k = k := by rw [hd]
 have h := hR w (.refl w)
 have hok : Hk.okw (Hk.st ph) wd m = true := by have := okwI I.jj (i := i) (by omega); rw [hq] at this; exact this
 obtain ⟨hwait, hmove⟩ := StpH.mu h hmu wd m (muX.2 I.mu) hok
 have hcr0 : (D i).q.crit = false := by rw [hq]; exact mu_crit hmu
 by_cases hwt : waitsP ph m
 · -- it waits
  have hgo := hwait hwt
  obtain ⟨⟨sv, rfl⟩, rfl⟩ := hwt
  have ho : o = none ∨ ∃ b, o = some b := by cases o <;> simp
  have hoenv : ∀ w₁, EnvH (p.x hb i) n i none false w w₁ → AtH (p.x hb i) n i (k + 1) rest (.s1 sv) c0 g w₁ := by
   intro w₁ e
   rcases ho with rfl | ⟨b, rfl⟩
   ·exact hR w₁ e
   ·exfalso
    obtain ⟨z, hz, hs⟩ := I.wk i hi
    rw [hd] at hs
    cases hs with
    | lap h1 _ => have := h1 (by simp); cases this
  have e1 : ∀ y, (upd D i ⟨rest, .lap (.s1 sv), c0, 0, 1, none, k⟩ y).q = (D y).q ∧ (upd D i ⟨rest, .lap (.s1 sv), c0, 0, 1, none, k⟩ y).rest = (D y).rest ∧ (upd D i ⟨rest, .lap (.s1 sv), c0, 0, 1, none, k⟩ y).c = (D y).c := fun y => by
   by_cases e : y = i
   ·subst e; rw [upd_same, hd]; exact ⟨rfl, rfl, rfl⟩
   ·rw [upd_ne D _ e]; exact ⟨rfl, rfl, rfl⟩
  have etok : tokD (upd D i ⟨rest, .lap (.s1 sv), c0, 0, 1, none, k⟩) = tokD D := by unfold tokD; rw [(e1 0).1, (e1 1).1]
  have eal : ∀ y, alft (upd D i ⟨rest, .lap (.s1 sv), c0, 0, 1, none, k⟩ y) = alft (D y) := fun y => by unfold alft; rw [(e1 y).1, (e1 y).2.1]
  have eM1 : M1 tag wd (upd D i ⟨rest, .lap (.s1 sv), c0, 0, 1, none, k⟩) = M1 tag wd D := by unfold M1 lenH; rw [(e1 0).1, (e1 0).2.1, (e1 1).1, (e1 1).2.1]
  refine I.worker G hL hi (x := ⟨rest, .lap (.s1 sv), c0, 0, 1, none, k⟩) (wd' := wd) (m' := false) (Ow' := Ow) (c' := c) hg hgo (.refl w) (.blk hoenv) ?_ (by rw [hd]; rfl) (fun h => absurd h (by simp [Wp.stage]))
   I.wg (fun tag' e _ => mode7 I (by rw [hq]; rfl) rfl tag' e) I.mu (by rw [(e1 0).1, (e1 1).1]; exact I.jj) I.cl (fun ht => I.al (by rw [← etok]; exact ht)) (fun y hy => by rw [(e1 y).1, (e1 y).2.2]; exact I.cr y hy)
   (by rw [(e1 0).2.1, (e1 1).2.1]; exact I.ct) (fun ph' e hp => by have := I.ne i (by omega) ph' (hq.trans e) hp; rw [hrest] at this; exact this) (by rw [eal, eal]) (fun b e => by cases e) (fun _ _ h => h) I.owl (no_ld I hi (by rw [hq]; rfl)) (.inl rfl) (fun _ => rfl) (Nat.le_of_eq eM1) (fun ph' _ => by rw [eM1]; simp only; omega) (.inr (.inr ⟨by rw [hd]; simp only; omega, rfl⟩))
  rw [etok]
  exact sil_mid I.mid fun e he => by simp at he
 · -- it goes on
  obtain ⟨k', rfl⟩ : ∃ k', k = k' + 1 := ⟨k - 1, by omega⟩
  obtain ⟨ph', wd', m', hmv, g', w', es, hgo, hmu', hef, hes, m2, hrun⟩ := hmove hwt
  have hmu'' : MuIs p n w' wd' m' := muX.1 hmu'
  have hC : Chg p n (D i).o (D i).q.crit w w' := ⟨hef.tape, hef.output, hef.os, Nat.le_of_eq hef.size.symm, fun b _ h1 _ _ _ => hef.block b (by rw [eM]; exact h1), fun l => by
   have lX := liveX (p := p) (n := n) (hb := hb) (i := i) (w := w)
   obtain ⟨⟨s, u, e⟩, _, ⟨y, hy, e2⟩⟩ := l
   exact ⟨⟨s, u, (hef.block _ (by rw [eM]; exact G.ok.wm)).trans e⟩, ⟨_, _, hmu''⟩, ⟨y, hy, (hef.block _ (by rw [eM]; exact G.ok.ma.symm)).trans e2⟩⟩, fun ⟨s, u, e⟩ => ⟨s, u, (hef.block _ (by rw [eM]; exact G.ok.wm)).trans e⟩⟩
  obtain ⟨_, hcr'⟩ := hmv.crit hmu
  have hjj' := J_upd (D := D) (i := i) (by omega) (x := ⟨rest, .lap ph', [], 3 * m2 + 1, ph'.deaf, none, k'⟩) (wd := wd) (m := m) (wd' := wd') (m' := m') (fun b hb' => by rw [hq] at hb'; exact hmv.J hb') I.jj
  have htok : tokD (upd D i ⟨rest, .lap ph', [], 3 * m2 + 1, ph'.deaf, none, k'⟩) = tokD D := tok_upd D i _ (by rw [hcr0]; exact hcr')
  have hlt : M1 tag wd' (upd D i ⟨rest, .lap ph', [], 3 * m2 + 1, ph'.deaf, none, k'⟩) < M1 tag wd D := M1_upd (by omega) _ wd' fun y _ _ => by
   have e1 : lenH wd (D i) = 1000 * (rest.length + ph.up) + rho wd ph := by unfold lenH; rw [hq, hrest]
   have e2 : lenH wd' ⟨rest, .lap ph', [], 3 * m2 + 1, ph'.deaf, none, k'⟩ = 1000 * (rest.length + ph'.up) + rho wd' ph' := rfl
   have e3 := rho_wd wd wd' (D y)
   have e4 := rho_le wd' ph'
   have e5 : wd'.lv ≤ 3 := by cases wd' <;> decide
   rcases hmv.up hmu with ⟨_, u1, u2⟩ | ⟨hu, u1⟩
   ·omega
   ·rcases hmv.rho hu with ⟨rfl, h⟩ | h
    ·omega
    ·omega
  have hmade := hmv.made hmu
  have hnodis : deafBehind (D i).deaf es = ph'.deaf := by
   have : (D i).deaf = ph.deaf := by rw [hd]
   rw [this]
   rcases hmv.deaf hmu with ⟨h1, h3, h4⟩ | ⟨rfl, h3, h4⟩ | ⟨h1, h3, h4, h5, h6⟩
   ·rw [hes.1 h1, h3, h4]; rfl
   ·rw [hes.2.1 rfl, h3, h4]; rfl
   ·rw [h5, h6]; exact (hes.2.2 h1 h3 h4).2
  have hevs : ∀ e ∈ es, e = Go.ConcR.mk .disable ∨ e = Go.ConcR.mk .enable ∨ ∃ a x, e = ⟨.cell a, x, true⟩ ∧ a.block = p.Mu ∧ a.off < 2 := by
   intro e he
   rcases hmv.deaf hmu with ⟨h1, _, _⟩ | ⟨rfl, _, _⟩ | ⟨h1, h3, h4, _, _⟩
   ·rw [hes.1 h1] at he; simp at he; exact .inl he
   ·rw [hes.2.1 rfl] at he; simp at he; exact .inr (.inl he)
   ·have := (hes.2.2 h1 h3 h4).1 e he; rw [eM] at this; exact this
  have hMuB : p.Mu < w'.heap.size := by rw [hef.size]; have := G.mL; have := I.lo; omega
  refine I.worker G hL hi (x := ⟨rest, .lap ph', [], 3 * m2 + 1, ph'.deaf, none, k'⟩) (wd' := wd') (m' := m') (Ow' := Ow) (c' := c) hg hgo hC (.lap (by simp) (by rw [hcr']; exact hrun)) ?_ hnodis (fun h => absurd h (by simp [Wp.stage]))
   (show WgAt 108 p.Wg _ st sm from (hef.block _ (by rw [eM]; exact G.ok.wm)).trans I.wg) (fun tag' e _ => mode7 I (by rw [hq]; rfl) rfl tag' e) hmu'' hjj' I.cl (fun ht => ?_) (fun y hy hcr => ?_)
   (by rw [rest_upd (by omega) hrest.symm]; exact I.ct) (fun ph2 e hp => ?_) ?_ (fun b e => by cases e) (fun _ _ h => h) I.owl (no_ld I hi (by rw [hq]; rfl)) ?_ (fun ⟨_, e⟩ => by simp at e) (Nat.le_of_lt hlt) (fun ph2 _ => by simp only; omega) (.inl hlt)
  ·rw [htok, hef.size]
   refine I.mid.appW (I.okw G) hi ofEvents_g fun op hop => ?_
   obtain ⟨e, he, rfl⟩ := Go.Conc.mem_ofEvents hop
   rcases hevs e he with rfl | rfl | ⟨ad, x, rfl, h1, h3⟩
   ·exact ⟨fun y hy => by simp [Go.ConcR.ofEvent_mk, MemAct.touch?] at hy, ⟨by simp [Go.ConcR.ofEvent_mk], by simp [Go.ConcR.ofEvent_mk]⟩, trivial⟩
   ·exact ⟨fun y hy => by simp [Go.ConcR.ofEvent_mk, MemAct.touch?] at hy, ⟨by simp [Go.ConcR.ofEvent_mk], by simp [Go.ConcR.ofEvent_mk]⟩, trivial⟩
   ·refine ⟨fun y hy => ?_, ⟨by simp [MemAct.ofEvent], by simp [MemAct.ofEvent]⟩, ?_⟩
    ·simp only [MemAct.ofEvent, MemAct.touch?, Option.some.injEq] at hy
     subst hy
     exact .inl ⟨⟨ad, rfl, .inr ⟨h1, h3⟩⟩, rfl⟩
    ·show ad.block < w.heap.size
     rw [h1, ← hef.size]; exact hMuB
  ·rw [htok] at ht
   exact (hef.block _ (by rw [eM]; exact G.ok.ma.symm)).trans (I.al ht)
  ·by_cases e : y = i
   ·subst e; rw [upd_same] at hcr; rw [hcr'] at hcr; cases hcr
   ·rw [upd_ne D _ e] at hcr ⊢; exact I.cr y hy hcr
  ·cases e
   have := I.ne i (by omega) ph hq (by rw [← hmv.pre hmu]; exact hp)
   rw [hrest] at this
   exact this
  ·have h3 := alft_upd (D := D) (i := i) (by omega) ⟨rest, .lap ph', [], 3 * m2 + 1, ph'.deaf, none, k'⟩
   have e1 : alft (D i) = rest.length - ph.made := by unfold alft; rw [hq, hrest]
   have e2 : alft ⟨rest, .lap ph', [], 3 * m2 + 1, ph'.deaf, none, k'⟩ = rest.length - ph'.made := rfl
   rw [hef.size]
   omega
  · -- whoever raises the semaphore may wake
   by_cases e : m' = m
   ·exact .inl e
   ·cases hm' : m' with
    | false => exact .inr (.inl rfl)
    | true =>
     refine .inr (.inr ⟨?_, ?_⟩)
     ·refine StpH.wakes h ?_
      rw [hm'] at hmv e
      cases hmv <;> first | exact ⟨_, rfl⟩ | exact absurd rfl e | (cases hmu)
     ·exact Goes.running (fun _ _ x => AtH.running x) w' (EnvH.refl w') hrun
end
end Go.Proofs.Ytnikfjfcbpeieaa.Hk
end
section
namespace Go.Proofs.Ytnikfjfcbpeieaa.Hk
open Go Go.Conc Go.Proofs.Ytnikfjfcbpeieaa.Lk
open Go.ConcN (sumTo upd sumTo_upd upd_ne upd_same sumTo_congr RelBy get_map_set get_map_set_same le_sumTo)
open Go.ConcR (KK wgBlock WgAt stA smA rd wr)
set_option linter.unusedVariables false
set_option linter.unusedSimpArgs false
def OkWg (p : Pl) (B : Nat) (e : Event) : Prop := ((MemAct.ofEvent e).touch? = none ∨ ∃ o x, e = ⟨.cell ⟨p.Wg, o, none⟩, x, true⟩) ∧ NoRel p (.ofEvent e) ∧ (MemAct.ofEvent e).low B
theorem okWg_cell {p : Pl} {B o : Nat} {x : Bool} (h : p.Wg < B) : OkWg p B ⟨.cell ⟨p.Wg, o, none⟩, x, true⟩ := ⟨.inr ⟨o, x, rfl⟩, ⟨by simp [MemAct.ofEvent], by simp [MemAct.ofEvent]⟩, h⟩
theorem okWg_mute {p : Pl} {B : Nat} {e : Event} (h : e.mute = true) : OkWg p B e := by
 refine ⟨.inl (touch_mute h), ⟨fun he => ?_, fun he => ?_⟩, low_mute h B⟩ <;> (obtain ⟨loc, wr, sy⟩ := e; cases loc <;> simp_all [Event.mute, MemAct.ofEvent])
section
variable {p : Pl} {n L0 : Nat} {all : Nat → List Int} {Ld : Goroutine → World → Prop} {T : List Int} {Z B0 : Nat} {W : World}
 {gs : Array Goroutine} {w w' : World} {sl : Option (Nat × Nat)} {j : Nat} {D : Nat → WDH} {tag : CTag} {f0 d0 : Nat} {a : Goroutine} {st sm : Int} {q : Nat → Nat} {hb : Option Nat} {wd : Wd} {m : Bool} {Ow : Nat → Nat → Prop} {c : List Int} {t : Trace}
 {i : Nat} {g g' : Goroutine} {s s' fuel f' dd d' k : Nat} {es : Array Event} {st' sm' : Int}
theorem okWg_okK {j' B : Nat} {tok : Option Nat} {e : Event} (h : OkWg p B e) (y : Nat) : OkK (p.w hb) Ow B y tok (.ofEvent e) := by
 obtain ⟨h1, h2, h3⟩ := h
 refine ⟨fun z hz => ?_, h2, h3⟩
 rcases h1 with h1 | ⟨o, x, rfl⟩
 ·rw [h1] at hz; cases hz
 ·simp only [MemAct.ofEvent, MemAct.touch?, Option.some.injEq] at hz
  subst hz
  exact .inl ⟨⟨_, rfl, .inl rfl⟩, rfl⟩
theorem IS.fin (G : GeoH p n L0 B0) (hL : ∀ g w, Ld g w → g.status = .running) (I : IS p n L0 all Ld T Z B0 W gs w j D tag f0 d0 a st sm q hb wd m Ow c t) (hi : i < j) (hg : gs[p.K + i]? = some g)
  (hd : D i = ⟨[], .fin s, [], fuel, dd, none, k⟩) (hgo : stepG Try.prog false g w = .go g' w' es) (hA : Aside p.Wg w w') (hs : WSH (p.x hb i) n i ⟨[], .fin s', [], f', d', none, k⟩ g' w') (hev : ∀ e ∈ es, OkWg p w'.heap.size e)
  (hdeaf : deafBehind dd es = d') (hrel : s' ≤ 6 → ∃ r, Gone p.Wg (p.K + i) (t ++ MemOp.ofEvents (p.K + i) g.frame.fn g.frame.place es) r) (hwg : WgAt 108 p.Wg w' st' sm')
  (hmode : ∀ tag', (tag' = tag ∨ (tag = .blk ∧ tag' = .w3)) → (mayWake Try.prog g = true → g'.status = .running → tag' ≠ .blk) → Lk.Mode j (upd (fun y => md (D y)) i ⟨[], s', 0, 0⟩) tag' st' sm')
  (hacq : tag = .ld → AcqH p.Wg p.K j (t ++ MemOp.ofEvents (p.K + i) g.frame.fn g.frame.place es)) (hlt : s' < s ∨ (s' = s ∧ f' + 3 ≤ fuel)) : Out p n L0 all Ld T Z B0 W gs w sl D tag f0 q wd t i := by
 have h2 := I.two
 have hq : (D i).q = .fin s := by rw [hd]
 have hC : Chg p n (D i).o (D i).q.crit w w' := ⟨hA.tape, hA.output, by rw [hA.os]; exact .refl _, Nat.le_of_eq hA.size.symm, fun b _ _ h1 _ _ => hA.block b h1, fun l => ⟨⟨_, _, hwg⟩, let ⟨x, y, e⟩ := l.mu; ⟨x, y, (hA.block _ G.ok.wm.symm).trans e⟩, let ⟨x, hx, e⟩ := l.al; ⟨x, hx, (hA.block _ (Ne.symm G.ok.wa)).trans e⟩⟩, fun _ => ⟨_, _, hwg⟩⟩
 have htok : tokD (upd D i ⟨[], .fin s', [], f', d', none, k⟩) = tokD D := tok_upd D i _ (by rw [hq]; rfl)
 have hst : ∀ y, (upd D i ⟨[], .fin s', [], f', d', none, k⟩ y).q.st = (D y).q.st := st_upd D i _ (by rw [hq]; rfl)
 have hM : M1 tag wd (upd D i ⟨[], .fin s', [], f', d', none, k⟩) < M1 tag wd D ∨ (s' = s ∧ M1 tag wd (upd D i ⟨[], .fin s', [], f', d', none, k⟩) = M1 tag wd D) := by
  have e1 : lenH wd (D i) = s := by unfold lenH; rw [hq]
  have e2 : lenH wd ⟨[], .fin s', [], f', d', none, k⟩ = s' := rfl
  rcases hlt with h | ⟨h, _⟩
  ·exact .inl (M1_upd (by omega) _ wd fun y _ _ => by omega)
  ·exact .inr ⟨h, M1_same (by omega) _ (by omega)⟩
 refine I.worker G hL hi (x := ⟨[], .fin s', [], f', d', none, k⟩) (wd' := wd) (m' := m) (Ow' := Ow) (c' := c) hg hgo hC hs ?_ (by rw [hd]; exact hdeaf) hrel hwg hmode (show MuIs p n w' wd m from (hA.block _ G.ok.wm.symm).trans I.mu) (by rw [hst, hst]; exact I.jj) I.cl
  (fun ht => (hA.block _ (Ne.symm G.ok.wa)).trans (I.al (by rw [← htok]; exact ht))) (fun y hy hcr => ?_) (by rw [rest_upd (by omega) (by rw [hd])]; exact I.ct) (fun ph e => by cases e) ?_ (fun b e => by cases e) (fun _ _ h => h) I.owl hacq (.inl rfl) (fun ⟨⟨sv, e⟩, _⟩ => by cases e) ?_ (fun ph e => by cases e) ?_
 ·rw [htok, hA.size]
  refine I.mid.appW (I.okw G) hi ofEvents_g fun op hop => ?_
  obtain ⟨e, he, rfl⟩ := Go.Conc.mem_ofEvents hop
  have := hev e he
  rw [hA.size] at this
  exact okWg_okK (j' := j) this i
 ·by_cases e : y = i
  ·subst e; rw [upd_same] at hcr; cases hcr
  ·rw [upd_ne D _ e] at hcr ⊢; exact I.cr y hy hcr
 ·have h3 := alft_upd (D := D) (i := i) (by omega) ⟨[], .fin s', [], f', d', none, k⟩
  have e1 : alft (D i) = 0 := by unfold alft; rw [hq]
  have e2 : alft ⟨[], .fin s', [], f', d', none, k⟩ = 0 := rfl
  rw [hA.size]
  omega
 ·rcases hM with h | ⟨_, h⟩ <;> omega
 ·rcases hM with h | ⟨h1, h⟩
  ·exact .inl h
  ·rcases hlt with h3 | ⟨_, h3⟩
   ·omega
   ·refine .inr (.inl ?_)
    rw [hd]; exact h3
theorem IS.stepWorker (G : GeoH p n L0 B0) (hL : ∀ g w, Ld g w → g.status = .running) (I : IS p n L0 all Ld T Z B0 W gs w j D tag f0 d0 a st sm q hb wd m Ow c t) (hi : i < j) (hg : gs[p.K + i]? = some g) (hrun : g.status = .running) : Out p n L0 all Ld T Z B0 W gs w sl D tag f0 q wd t i := by
 obtain ⟨g1, hg1, hs⟩ := I.wk i hi
 obtain rfl : g1 = g := by rw [hg] at hg1; exact (Option.some.inj hg1).symm
 have h2 := I.two
 obtain ⟨eS, eW, eM, eA, eK⟩ := px_w p hb i
 have hwg := I.wg
 have hmode := I.mode
 have hdf := I.deafW i hi
 have hWs : p.Wg < w.heap.size := (Array.getElem?_eq_some_iff.1 hwg).1
 have szA : ∀ ad v, (w.setCell ad v).heap.size = w.heap.size := fun ad v => (Go.Conc.aside_setCell w ad v).size
 have asA : Aside p.Wg w w := ⟨rfl, rfl, rfl, rfl, fun _ _ => rfl⟩
 have aS : ∀ v, Aside p.Wg w (w.setCell (stA p.Wg) v) := fun v => Go.Conc.aside_setCell w (stA p.Wg) v
 have aM : ∀ v, Aside p.Wg w (w.setCell (smA p.Wg) v) := fun v => Go.Conc.aside_setCell w (smA p.Wg) v
 have hrel' : ∀ (es : Array Event) (fn : FuncId) (pos : String), (D i).q.stage ≤ 6 → (∀ x e, es[x]? = some e → (MemAct.ofEvent e).touch? = none ∨ ((∃ ad wr, e = ⟨.cell ad, wr, true⟩ ∧ ad.block = p.Wg) ∧ 0 < deafBehind (Deaf t (p.K + i)) (es.extract 0 x))) →
   ∃ r, Gone p.Wg (p.K + i) (t ++ MemOp.ofEvents (p.K + i) fn pos es) r := fun es fn pos hs he => by
  obtain ⟨r, hr⟩ := I.rel i hi hs
  refine ⟨r, hr.app (hr.1.appOwn fn pos es fun x e hx => (he x e hx).imp id fun ⟨⟨ad, wr, h1, _⟩, h3⟩ => ⟨⟨ad, wr, h1⟩, h3⟩) fun op hop _ y hy => ?_⟩
  obtain ⟨e, hee, rfl⟩ := Go.Conc.mem_ofEvents hop
  obtain ⟨x, hx⟩ := Array.mem_iff_getElem?.1 hee
  rcases he x e hx with h | ⟨⟨ad, wr, rfl, hb⟩, _⟩
  ·rw [h] at hy; cases hy
  ·simp only [MemAct.ofEvent, MemAct.touch?, Option.some.injEq] at hy
   subst hy
   exact ⟨ad, rfl, hb⟩
 have same : ∀ {s0 : Nat}, (D i).q.stage = s0 → ∀ y, (upd (fun y => md (D y)) i ⟨[], s0, 0, 0⟩ y).stage = (md (D y)).stage := fun {s0} e y => by
  by_cases h : y = i
  ·subst h; rw [upd_same]; exact e.symm
  ·rw [upd_ne _ _ h]
 have cnt1 : ∀ {s0 : Nat}, (D i).q.stage = s0 → 5 ≤ s0 → cnt (md (D i)) = 1 := fun {s0} e h => by unfold cnt md; simp only [e]; rw [if_pos h]
 generalize hD : D i = di at hs
 cases hs with
 | @lap rest ph c0 m1 o k _ _ h1 h =>
  have hx : D i = ⟨rest, .lap ph, c0, 3 * m1 + 1, ph.deaf, o, k⟩ := hD
  rcases goes_split2 (EnvH.refl w) h with hstop | ⟨m', g', w', es, e1, hgo, hdo, h'⟩
  ·cases hph : ph.mu with
   | true =>
    refine I.st_mu G hL hi hg hph (by simp) hx fun w₁ e => hstop w₁ ?_
    rw [mu_crit hph]; exact e
   | false =>
    have hat := hstop w (EnvH.refl w)
    cases ph <;> first | (cases hph; done) | skip
    ·exact I.st_al G hL hi hg hx hat
    ·exact I.st_la G hL hi hg hx hat
    ·exact I.st_ur G hL hi hg hx hat
    ·exact I.st_ue G hL hi hg hx hat
  ·subst e1
   exact I.idle G hL hi (x := ⟨rest, .lap ph, c0, 3 * m' + 1, ph.deaf, o, k⟩) (f := 3 * m' + 1) hg hgo (by rw [hx]) (by rw [hx]; show 3 * m' + 1 + 3 ≤ 3 * (m' + 1) + 1; omega) (by omega) (by rw [hx]; exact hdo) (.lap h1 h') (by rw [hx]; rfl) (fun _ => .inr trivial)
 | blk h => cases hrun
 | @r0 m1 k _ _ h =>
  have hx : D i = ⟨[], .fin 7, [], 3 * m1 + 1, 0, none, k⟩ := hD
  rcases goes_split2 (EnvH.refl w) h with hstop | ⟨m', g', w', es, e1, hgo, hdo, h'⟩
  ·obtain ⟨_, g', hgo, m', h'⟩ := hstop w (EnvH.refl w)
   rw [eW] at hgo
   have e1 : MemOp.ofEvents (p.K + i) g1.frame.fn g1.frame.place #[Go.ConcR.mk (.releaseMerge (stA p.Wg))] = #[{ g := p.K + i, fn := g1.frame.fn, pos := g1.frame.place, act := .mark (.releaseMerge (stA p.Wg)) }] := one_op _ _ _ _ (by simp)
   refine I.fin G hL hi hg hx hgo asA (.k1 h') (fun e he => ?_) rfl (fun _ => ⟨_, by rw [e1]; exact Gone.new rfl rfl (by rw [hdf, hx])⟩) hwg (fun tag' e _ => (hmode.retag e).counted hi (by simp [md, hx, Wp.stage]) (.inr (.inl rfl))) (no_ld I hi (by rw [hx]; rfl)) (.inl (by omega))
   rw [Array.mem_singleton] at he
   subst he
   exact ⟨.inl rfl, ⟨by simp [Go.ConcR.ofEvent_mk], by simp [Go.ConcR.ofEvent_mk]⟩, hWs⟩
  ·subst e1
   exact I.idle G hL hi (x := ⟨[], .fin 7, [], 3 * m' + 1, 0, none, k⟩) (f := 3 * m' + 1) hg hgo (by rw [hx]) (by rw [hx]; show 3 * m' + 1 + 3 ≤ 3 * (m' + 1) + 1; omega) (by omega) (by rw [hx]; exact hdo) (.r0 h') (by rw [hx]; rfl) (fun _ => .inr trivial)
 | @k1 m1 k _ _ h =>
  have hx : D i = ⟨[], .fin 6, [], 3 * m1 + 1, 0, none, k⟩ := hD
  rcases goes_split2 (EnvH.refl w) h with hstop | ⟨m', g', w', es, e1, hgo, ⟨rfl, rfl⟩, h'⟩
  ·obtain ⟨_, g', hgo, m', h'⟩ := hstop w (EnvH.refl w)
   refine I.fin G hL hi hg hx hgo asA (.d1 h') (fun e he => ?_) rfl (fun _ => hrel' _ _ _ (by rw [hx]; simp [Wp.stage]) fun x e he => .inl ?_) hwg (fun tag' e _ => (hmode.retag e).counted hi (by simp [md, hx, Wp.stage]) (.inr (.inr rfl))) (fun e => ?_) (.inl (by omega))
   ·rw [Array.mem_singleton] at he; subst he; exact okWg_mute rfl
   ·have := Array.mem_of_getElem? he
    rw [Array.mem_singleton] at this
    subst this
    rfl
   ·have := hmode.ldq e i hi; simp [md, hx, Wp.stage] at this
  ·subst e1
   exact I.fin G hL hi hg hx hgo asA (.k1 h') (by simp) rfl (fun _ => hrel' _ _ _ (by rw [hx]; simp [Wp.stage]) (by simp)) hwg (fun tag' e _ => (hmode.retag e).same (same (by rw [hx]; rfl))) (fun e => by have := hmode.ldq e i hi; simp [md, hx, Wp.stage] at this) (.inr ⟨rfl, by omega⟩)
 | @d1 m1 k _ _ h =>
  have hx : D i = ⟨[], .fin 5, [], 3 * m1 + 1, 1, none, k⟩ := hD
  have hdf1 : Deaf t (p.K + i) = 1 := by rw [hdf, hx]
  have h6 : (D i).q.stage ≤ 6 := by rw [hx]; simp [Wp.stage]
  have nold : ∀ {P : Prop}, tag = .ld → P := fun e => by have := hmode.ldq e i hi; simp [md, hx, Wp.stage] at this
  have c1 : cnt (md (D i)) = 1 := cnt1 (s0 := 5) (by rw [hx]; rfl) (by omega)
  have hv1 : 1 ≤ Vc j (fun y => md (D y)) := by
   have h1 := le_sumTo (f := fun y => cnt (md (D y))) hi
   simp only [c1] at h1
   exact h1
  have hv2 := vc_le (D := fun y => md (D y))
  have atomic2 : ∀ x e, (#[rd (stA p.Wg), wr (stA p.Wg)] : Array Event)[x]? = some e → (MemAct.ofEvent e).touch? = none ∨ ((∃ ad wr, e = ⟨.cell ad, wr, true⟩ ∧ ad.block = p.Wg) ∧ 0 < deafBehind (Deaf t (p.K + i)) ((#[rd (stA p.Wg), wr (stA p.Wg)] : Array Event).extract 0 x)) := by
   intro x e he
   have hlt := (Array.getElem?_eq_some_iff.1 he).1
   simp at hlt
   rcases (show x = 0 ∨ x = 1 by omega) with rfl | rfl
   ·simp at he
    subst he
    exact .inr ⟨⟨_, _, rfl, rfl⟩, by rw [hdf1]; simp [deafBehind]⟩
   ·simp at he
    subst he
    exact .inr ⟨⟨_, _, rfl, rfl⟩, by rw [hdf1]; simp [rd, deafBehind]⟩
  have ok2 : ∀ v, ∀ e ∈ (#[rd (stA p.Wg), wr (stA p.Wg)] : Array Event), OkWg p (w.setCell (stA p.Wg) v).heap.size e := by
   intro v e he
   simp only [List.mem_toArray, List.mem_cons, List.not_mem_nil, or_false] at he
   rw [szA]
   rcases he with rfl | rfl
   ·exact okWg_cell hWs
   ·exact okWg_cell hWs
  rcases goes_split2 (EnvH.refl w) h with hstop' | ⟨m', g', w', es, e1, hgo, ⟨rfl, rfl⟩, h'⟩
  ·have hstop := (hstop' w (EnvH.refl w)).2
   rw [eW] at hstop
   have hquit : ∀ (v wt : Nat), v ≤ 1 → wt ≤ 1 → ((st : Int) = ((v + 1 : Nat) : Int) * KK + wt ∧ sm = 0) → ¬ (v = 0 ∧ wt = 1) →
     (∀ (tag' : CTag), (tag' = tag ∨ (tag = .blk ∧ tag' = .w3)) → Lk.Mode j (upd (fun y => md (D y)) i ⟨[], 1, 0, 0⟩) tag' ((v : Int) * KK + wt) 0) → Out p n L0 all Ld T Z B0 W gs w sl D tag f0 q wd t i := by
    intro v wt hv hwt ⟨e1, e2⟩ hn hm
    subst e1 e2
    obtain ⟨g', hgo, _, hq⟩ := hstop v wt hv hwt hwg
    obtain ⟨m', hq⟩ := hq hn
    exact I.fin G hL hi hg hx hgo (aS _) (.quit hq) (ok2 _) rfl (fun _ => hrel' _ _ _ h6 atomic2) (hwg.setSt _) (fun tag' e _ => hm tag' e) nold (.inl (by omega))
   have evq : Vc j (upd (fun y => md (D y)) i ⟨[], 1, 0, 0⟩) + 1 = Vc j (fun y => md (D y)) := by
    have := vc_upd (fun y => md (D y)) ⟨[], 1, 0, 0⟩ hi
    have h3 : cnt (⟨[], 1, 0, 0⟩ : WD) = 0 := rfl
    omega
   have eoq : OpenSt j (fun y => md (D y)) → OpenSt j (upd (fun y => md (D y)) i ⟨[], 1, 0, 0⟩) := fun h x hx => by
    by_cases e : x = i
    ·subst e; rw [upd_same]; exact .inr (.inr (.inr rfl))
    ·rw [upd_ne _ _ e]; exact h x hx
   cases hmode with
   | opn h3 h4 h5 h6' =>
    refine hquit (Vc j (fun y => md (D y)) + pend tag - 1) 0 (by have := I.cs.bound; have := hv2 j; omega) (by omega) ⟨by rw [show Vc j (fun y => md (D y)) + pend tag - 1 + 1 = Vc j (fun y => md (D y)) + pend tag by omega]; simp, rfl⟩ (by omega) fun tag' e => ?_
    have hp : pend tag' = pend tag := by rcases e with rfl | ⟨rfl, rfl⟩ <;> rfl
    have hop : isOpen tag' := by
     rcases e with rfl | ⟨rfl, rfl⟩
     ·exact h3
     ·exact h3.elim
    have hee : (((Vc j (fun y => md (D y)) + pend tag - 1 : Nat) : Int) * KK + ((0 : Nat) : Int)) = ((Vc j (upd (fun y => md (D y)) i ⟨[], 1, 0, 0⟩) + pend tag' : Nat) : Int) * KK := by
     rw [hp, show Vc j (fun y => md (D y)) + pend tag - 1 = Vc j (upd (fun y => md (D y)) i ⟨[], 1, 0, 0⟩) + pend tag by omega]; simp
    rw [hee]
    refine .opn hop (eoq h4) (fun n hn => ?_) (fun n vs hn => ?_)
    ·rcases e with rfl | ⟨rfl, rfl⟩
     ·have := h5 n hn; omega
     ·cases hn
    ·rcases e with rfl | ⟨rfl, rfl⟩
     ·have := h6' n vs hn; omega
     ·cases hn
   | reg h3 h4 h5 =>
    by_cases hv : Vc j (fun y => md (D y)) = 1
    · -- the last one, and the starter waits
     obtain ⟨g', hgo, hl, _⟩ := hstop 0 1 (by omega) (by omega) (by rw [hv] at hwg; simpa using hwg)
     obtain ⟨m', h'⟩ := hl ⟨rfl, rfl⟩
     refine I.fin G hL hi hg hx hgo (aS _) (.d2 (by rw [eW]; exact h')) (ok2 _) rfl (fun _ => hrel' _ _ _ h6 atomic2) (hwg.setSt _) (fun tag' e _ => ?_) nold (.inl (by omega))
     have hw3 : isW3 tag' := by
      rcases e with rfl | ⟨rfl, rfl⟩
      ·exact h3
      ·trivial
     have := Mode.last (D := upd (fun y => md (D y)) i ⟨[], 4, 0, 0⟩) (tag := tag') i hw3 hi (by rw [upd_same]; exact .inl rfl) (fun x hx' hne => by
      rw [upd_ne _ _ hne]
      have c0 : cnt (md (D x)) = 0 := by
       have h9 := le_sumTo (f := fun y => cnt (upd (fun y => md (D y)) i ⟨[], 1, 0, 0⟩ y)) hx'
       have h10 : cnt (upd (fun y => md (D y)) i ⟨[], 1, 0, 0⟩ x) = cnt (md (D x)) := by rw [upd_ne _ _ hne]
       simp only [h10] at h9
       have : Vc j (upd (fun y => md (D y)) i ⟨[], 1, 0, 0⟩) = sumTo j fun y => cnt (upd (fun y => md (D y)) i ⟨[], 1, 0, 0⟩ y) := rfl
       omega
      unfold cnt at c0
      rcases h4 x hx' with h | h | h | h
      ·rw [h] at c0; simp at c0
      ·rw [h] at c0; simp at c0
      ·rw [h] at c0; simp at c0
      ·exact h)
     rw [upd_same] at this
     simpa using this
    ·refine hquit (Vc j (fun y => md (D y)) - 1) 1 (by have := hv2 j; omega) (by omega) ⟨by rw [show Vc j (fun y => md (D y)) - 1 + 1 = Vc j (fun y => md (D y)) by omega]; rfl, rfl⟩ (by omega) fun tag' e => ?_
     have hw3 : isW3 tag' := by
      rcases e with rfl | ⟨rfl, rfl⟩
      ·exact h3
      ·trivial
     have hee : (((Vc j (fun y => md (D y)) - 1 : Nat) : Int) * KK + ((1 : Nat) : Int)) = ((Vc j (upd (fun y => md (D y)) i ⟨[], 1, 0, 0⟩) : Nat) : Int) * KK + 1 := by
      rw [show Vc j (fun y => md (D y)) - 1 = Vc j (upd (fun y => md (D y)) i ⟨[], 1, 0, 0⟩) by omega]; simp
     rw [hee]
     exact .reg hw3 (eoq h4) (by omega)
   | last L _ h4 h5 h6' =>
    exfalso
    by_cases e : i = L
    ·subst e; simp [md, hx, Wp.stage] at h5
    ·have := h6' i hi e; simp [md, hx, Wp.stage] at this
   | sema h => exact absurd (h i hi) (by simp [md, hx, Wp.stage])
   | fin _ h => exact absurd (h i hi) (by simp [md, hx, Wp.stage])
  ·subst e1
   exact I.fin G hL hi hg hx hgo asA (.d1 h') (by simp) rfl (fun _ => hrel' _ _ _ h6 (by simp)) hwg (fun tag' e _ => (hmode.retag e).same (same (by rw [hx]; rfl))) nold (.inr ⟨rfl, by omega⟩)
 | @d2 m1 k _ _ h =>
  have hx : D i = ⟨[], .fin 4, [], 3 * m1 + 1, 1, none, k⟩ := hD
  have hdf1 : Deaf t (p.K + i) = 1 := by rw [hdf, hx]
  have h6 : (D i).q.stage ≤ 6 := by rw [hx]; simp [Wp.stage]
  have nold : ∀ {P : Prop}, tag = .ld → P := fun e => by have := hmode.ldq e i hi; simp [md, hx, Wp.stage] at this
  rcases goes_split2 (EnvH.refl w) h with hstop' | ⟨m', g', w', es, e1, hgo, ⟨rfl, rfl⟩, h'⟩
  ·have hstop := (hstop' w (EnvH.refl w)).2
   rw [eW] at hstop
   cases hmode with
   | last L h3 h4 h5 h6' =>
    have e : i = L := by
     by_cases e : i = L
     ·exact e
     ·have := h6' i hi e; simp [md, hx, Wp.stage] at this
    subst e
    have hwg2 := hwg
    simp [md, hx, Wp.stage] at hwg2
    obtain ⟨g', hgo, m', h'⟩ := hstop hwg2
    refine I.fin G hL hi hg hx hgo asA (.d3 (by rw [eW]; exact h')) (fun e he => ?_) rfl (fun _ => hrel' _ _ _ h6 (fun x e he => .inr ?_)) hwg (fun tag' e _ => ?_) nold (.inl (by omega))
    ·rw [Array.mem_singleton] at he; subst he; exact okWg_cell hWs
    ·have hlt := (Array.getElem?_eq_some_iff.1 he).1
     simp at hlt
     subst hlt
     simp at he
     subst he
     exact ⟨⟨_, _, rfl, rfl⟩, by rw [hdf1]; simp [deafBehind]⟩
    ·have hw3 : isW3 tag' := by
      rcases e with rfl | ⟨rfl, rfl⟩
      ·exact h3
      ·trivial
     have := Mode.last (D := upd (fun y => md (D y)) i ⟨[], 3, 0, 0⟩) (tag := tag') i hw3 hi (by rw [upd_same]; exact .inr (.inl rfl)) (fun x hx' hne => by rw [upd_ne _ _ hne]; exact h6' x hx' hne)
     rw [upd_same] at this
     simpa [md, hx, Wp.stage] using this
   | opn h3 h4 _ _ => exact absurd (h4 i hi) (by simp [md, hx, Wp.stage])
   | reg h3 h4 _ => exact absurd (h4 i hi) (by simp [md, hx, Wp.stage])
   | sema h => exact absurd (h i hi) (by simp [md, hx, Wp.stage])
   | fin _ h => exact absurd (h i hi) (by simp [md, hx, Wp.stage])
  ·subst e1
   exact I.fin G hL hi hg hx hgo asA (.d2 h') (by simp) rfl (fun _ => hrel' _ _ _ h6 (by simp)) hwg (fun tag' e _ => (hmode.retag e).same (same (by rw [hx]; rfl))) nold (.inr ⟨rfl, by omega⟩)
 | @d3 m1 k _ _ h =>
  have hx : D i = ⟨[], .fin 3, [], 3 * m1 + 1, 1, none, k⟩ := hD
  have hdf1 : Deaf t (p.K + i) = 1 := by rw [hdf, hx]
  have h6 : (D i).q.stage ≤ 6 := by rw [hx]; simp [Wp.stage]
  have nold : ∀ {P : Prop}, tag = .ld → P := fun e => by have := hmode.ldq e i hi; simp [md, hx, Wp.stage] at this
  rcases goes_split2 (EnvH.refl w) h with hstop' | ⟨m', g', w', es, e1, hgo, ⟨rfl, rfl⟩, h'⟩
  ·have hstop := (hstop' w (EnvH.refl w)).2
   rw [eW] at hstop
   cases hmode with
   | last L h3 h4 h5 h6' =>
    have e : i = L := by
     by_cases e : i = L
     ·exact e
     ·have := h6' i hi e; simp [md, hx, Wp.stage] at this
    subst e
    have hwg2 := hwg
    simp [md, hx, Wp.stage] at hwg2
    obtain ⟨g', hgo, m', h'⟩ := hstop hwg2
    refine I.fin G hL hi hg hx hgo (aS _) (.d4 (by rw [eW]; exact h')) (fun e he => ?_) rfl (fun _ => hrel' _ _ _ h6 (fun x e he => .inr ?_)) (hwg.setSt _) (fun tag' e _ => ?_) nold (.inl (by omega))
    ·rw [Array.mem_singleton] at he; subst he; rw [szA]; exact okWg_cell hWs
    ·have hlt := (Array.getElem?_eq_some_iff.1 he).1
     simp at hlt
     subst hlt
     simp at he
     subst he
     exact ⟨⟨_, _, rfl, rfl⟩, by rw [hdf1]; simp [deafBehind]⟩
    ·have hw3 : isW3 tag' := by
      rcases e with rfl | ⟨rfl, rfl⟩
      ·exact h3
      ·trivial
     have := Mode.last (D := upd (fun y => md (D y)) i ⟨[], 2, 0, 0⟩) (tag := tag') i hw3 hi (by rw [upd_same]; exact .inr (.inr rfl)) (fun x hx' hne => by rw [upd_ne _ _ hne]; exact h6' x hx' hne)
     rw [upd_same] at this
     simpa [md, hx, Wp.stage] using this
   | opn h3 h4 _ _ => exact absurd (h4 i hi) (by simp [md, hx, Wp.stage])
   | reg h3 h4 _ => exact absurd (h4 i hi) (by simp [md, hx, Wp.stage])
   | sema h => exact absurd (h i hi) (by simp [md, hx, Wp.stage])
   | fin _ h => exact absurd (h i hi) (by simp [md, hx, Wp.stage])
  ·subst e1
   exact I.fin G hL hi hg hx hgo asA (.d3 h') (by simp) rfl (fun _ => hrel' _ _ _ h6 (by simp)) hwg (fun tag' e _ => (hmode.retag e).same (same (by rw [hx]; rfl))) nold (.inr ⟨rfl, by omega⟩)
 | @d4 m1 k _ _ h =>
  have hx : D i = ⟨[], .fin 2, [], 3 * m1 + 1, 1, none, k⟩ := hD
  have hdf1 : Deaf t (p.K + i) = 1 := by rw [hdf, hx]
  have h6 : (D i).q.stage ≤ 6 := by rw [hx]; simp [Wp.stage]
  have nold : ∀ {P : Prop}, tag = .ld → P := fun e => by have := hmode.ldq e i hi; simp [md, hx, Wp.stage] at this
  rcases goes_split2 (EnvH.refl w) h with hstop' | ⟨m', g', w', es, e1, hgo, ⟨rfl, rfl⟩, h'⟩
  ·obtain ⟨_, hmw, hstop⟩ := hstop' w (EnvH.refl w)
   rw [eW] at hstop
   cases hmode with
   | last L h3 h4 h5 h6' =>
    have e : i = L := by
     by_cases e : i = L
     ·exact e
     ·have := h6' i hi e; simp [md, hx, Wp.stage] at this
    subst e
    have hwg2 := hwg
    simp [md, hx, Wp.stage] at hwg2
    obtain ⟨g', hgo, m', hq⟩ := hstop hwg2
    have hgr : g'.status = .running := by
     cases m' with
     | zero => exact absurd hq.2 (by decide)
     | succ m' => exact hq.elim (fun h => absurd h.2 (by decide)) fun h => h.1
    refine I.fin G hL hi hg hx hgo (aM _) (.quit hq) (fun e he => ?_) rfl (fun _ => hrel' _ _ _ h6 (fun x e he => ?_)) (hwg.setSm 1) (fun tag' e hwk => ?_) nold (.inl (by omega))
    ·rw [szA]
     simp only [semEvents, List.mem_toArray, List.mem_cons, List.not_mem_nil, or_false] at he
     rcases he with rfl | rfl | rfl | rfl
     ·exact okWg_mute rfl
     ·exact okWg_cell hWs
     ·exact okWg_cell hWs
     ·exact okWg_mute rfl
    ·have hlt := (Array.getElem?_eq_some_iff.1 he).1
     simp [semEvents] at hlt
     rcases (show x = 0 ∨ x = 1 ∨ x = 2 ∨ x = 3 by omega) with rfl | rfl | rfl | rfl
     ·simp [semEvents] at he
      subst he
      exact .inl rfl
     ·simp [semEvents] at he
      subst he
      exact .inr ⟨⟨_, _, rfl, rfl⟩, by rw [hdf1]; simp [semEvents, deafBehind]⟩
     ·simp [semEvents] at he
      subst he
      exact .inr ⟨⟨_, _, rfl, rfl⟩, by rw [hdf1]; simp [semEvents, deafBehind]⟩
     ·simp [semEvents] at he
      subst he
      exact .inl rfl
    ·have hw3 : tag' = .w3 := by
      have hne := hwk hmw hgr
      rcases e with rfl | ⟨rfl, rfl⟩
      ·cases tag' <;> simp_all [isW3]
      ·rfl
     subst hw3
     rw [show (if (md (D i)).stage = 2 then (0 : Int) else 1) = 0 by simp [md, hx, Wp.stage]]
     exact .sema fun x hx' => by
      by_cases e : x = i
      ·subst e; rw [upd_same]
      ·rw [upd_ne _ _ e]; exact h6' x hx' e
   | opn h3 h4 _ _ => exact absurd (h4 i hi) (by simp [md, hx, Wp.stage])
   | reg h3 h4 _ => exact absurd (h4 i hi) (by simp [md, hx, Wp.stage])
   | sema h => exact absurd (h i hi) (by simp [md, hx, Wp.stage])
   | fin _ h => exact absurd (h i hi) (by simp [md, hx, Wp.stage])
  ·subst e1
   exact I.fin G hL hi hg hx hgo asA (.d4 h') (by simp) rfl (fun _ => hrel' _ _ _ h6 (by simp)) hwg (fun tag' e _ => (hmode.retag e).same (same (by rw [hx]; rfl))) nold (.inr ⟨rfl, by omega⟩)
 | @quit qq d k _ _ h =>
  have hx : D i = ⟨[], .fin 1, [], 3 * qq + 1, d, none, k⟩ := hD
  have h6 : (D i).q.stage ≤ 6 := by rw [hx]; simp [Wp.stage]
  cases qq with
  | zero => rw [h.1] at hrun; cases hrun
  | succ qq =>
   rcases h with ⟨hf, _⟩ | ⟨_, g', es, hm, hst, hq'⟩
   ·rw [hf] at hrun; cases hrun
   have hown : ∀ x e, es[x]? = some e → (MemAct.ofEvent e).touch? = none ∨ ((∃ ad wr, e = ⟨.cell ad, wr, true⟩ ∧ ad.block = p.Wg) ∧ 0 < deafBehind (Deaf t (p.K + i)) (es.extract 0 x)) := fun x e he => .inl (touch_mute (hm e (Array.mem_of_getElem? he)))
   refine I.fin G hL hi hg hx (hst w) asA (.quit hq') (fun e he => okWg_mute (hm e he)) rfl (fun _ => hrel' _ _ _ h6 hown) hwg (fun tag' e _ => (hmode.retag e).same (same (by rw [hx]; rfl))) (fun e => (I.acq e).app fun x r hx' hr => ?_) (.inr ⟨rfl, by omega⟩)
   by_cases e : x = i
   ·subst e
    refine hr.app (hr.1.appOwn _ _ es fun x e hx => (hown x e hx).imp id fun ⟨⟨ad, wr, h1, _⟩, h3⟩ => ⟨⟨ad, wr, h1⟩, h3⟩) fun op hop _ y hy => ?_
    obtain ⟨e, hee, rfl⟩ := Go.Conc.mem_ofEvents hop
    rw [touch_mute (hm e hee)] at hy; cases hy
   ·exact hr.app (hr.1.appOther ofEvents_g (by omega)) fun op hop hog => absurd ((ofEvents_g op hop).symm.trans hog) (by omega)
end
end Go.Proofs.Ytnikfjfcbpeieaa.Hk
end
section
namespace Go.Proofs.Ytnikfjfcbpeieaa.Hk
open Go Go.Conc Go.Proofs.Ytnikfjfcbpeieaa.Lk
open Go.ConcN (sumTo upd sumTo_upd sumTo_upd_out upd_ne upd_same sumTo_congr RelBy get_map_set get_map_set_same le_sumTo Deaf_still)
open Go.ConcR (KK wgBlock WgAt stA smA rd wr)
set_option linter.unusedVariables false
set_option linter.unusedSimpArgs false
section
variable {p : Pl} {n L0 : Nat} {all : Nat → List Int} {Ld : Goroutine → World → Prop} {T : List Int} {Z B0 : Nat} {W : World}
 {gs : Array Goroutine} {w w' : World} {sl : Option (Nat × Nat)} {j : Nat} {D : Nat → WDH} {tag : CTag} {f0 d0 : Nat} {a : Goroutine} {st sm : Int} {q : Nat → Nat} {hb : Option Nat} {wd : Wd} {m : Bool} {Ow : Nat → Nat → Prop} {c : List Int} {t : Trace}
theorem IS.workers (I : IS p n L0 all Ld T Z B0 W gs w j D tag f0 d0 a st sm q hb wd m Ow c t) {hb' : Option Nat} (hx : ∀ y, y < j → p.x hb' y = p.x hb y) (hE : ∀ y, y < j → EnvH (p.x hb y) n y (D y).o (D y).q.crit w w') (g g' : Goroutine) :
  ∃ D' : Nat → WDH, EqF D D' ∧ (∀ y, y < j → ∀ z, gs[p.K + y]? = some z → WSH (p.x hb' y) n y (D' y) (woken Try.prog g g' w' z) w') ∧ (∀ y, (D y).fuel ≤ (D' y).fuel ∧ (D' y).fuel ≤ (D y).fuel + 1) ∧ (∀ y, j ≤ y → D' y = D y) ∧ (g'.status = .blocked → ∀ y, (D' y).fuel = (D y).fuel) ∧ (∀ y, y < 2 → (D' y).blocked → (D y).blocked) := by
 have oth : ∀ y, ∃ f, (y < j → ∀ z, gs[p.K + y]? = some z → WSH (p.x hb y) n y { D y with fuel := f } (woken Try.prog g g' w' z) w') ∧ (D y).fuel ≤ f ∧ f ≤ (D y).fuel + 1 ∧ (j ≤ y → f = (D y).fuel) ∧ (g'.status = .blocked → f = (D y).fuel) := fun y => by
  by_cases hy : y < j
  ·obtain ⟨z, hz, hzs⟩ := I.wk y hy
   by_cases hgb : g'.status = .blocked
   ·refine ⟨(D y).fuel, fun _ z' hz' => ?_, Nat.le_refl _, by omega, fun _ => rfl, fun _ => rfl⟩
    rw [hz] at hz'; cases hz'
    have hw : woken Try.prog g g' w' z = z := by
     unfold Go.Conc.woken
     rw [if_neg (by simp [hgb])]
    rw [hw]; exact hzs.rely (hE y hy)
   ·obtain ⟨f, h1, h3, h4, h5, _⟩ := hzs.wokenBy (hE y hy) g g'
    refine ⟨f, fun _ z' hz' => ?_, h3, h4, fun h => by omega, fun h => absurd h hgb⟩
    rw [hz] at hz'; cases hz'
    exact h1
  ·exact ⟨(D y).fuel, fun h => absurd h hy, Nat.le_refl _, by omega, fun _ => rfl, fun _ => rfl⟩
 obtain ⟨F, hF⟩ := Classical.axiomOfChoice oth
 refine ⟨fun y => { D y with fuel := F y }, fun y => ⟨F y, rfl⟩, fun y hy z hz => ?_, fun y => ⟨(hF y).2.1, (hF y).2.2.1⟩, fun y hy => ?_, fun hb' y => (hF y).2.2.2.2 hb', fun y hy ⟨h1, h3⟩ => ⟨h1, ?_⟩⟩
 ·rw [hx y hy]; exact (hF y).1 hy z hz
 ·simp only [(hF y).2.2.2.1 hy]
 ·have := (hF y).2.1
  simp only at h3
  omega
theorem IS.leaver (G : GeoH p n L0 B0) (hL : ∀ g w, Ld g w → g.status = .running) (I : IS p n L0 all Ld T Z B0 W gs w j D tag f0 d0 a st sm q hb wd m Ow c t)
  {x : Nat} (hx0 : 0 < x) (hx : x < p.K) {g : Goroutine} (hg : gs[x]? = some g) (hrun : g.status = .running) :
  ∃ m₁ ops μ', runT Try.prog (crowd gs w sl) x = (.next m₁, ops) ∧ Lt2 μ' (M1 tag wd D, M2 D f0 p.K q) ∧ InvH p n L0 all Ld T Z B0 W μ' m₁ (t ++ ops) := by
 have hq := I.old x g hx0 hx hg
 cases hqp : q x with
 | zero => rw [hqp] at hq; rw [hq.1] at hrun; cases hrun
 | succ k =>
  rw [hqp] at hq
  rcases hq with ⟨hf, _⟩ | ⟨_, g', es, hm, hst, hq'⟩
  ·rw [hf] at hrun; cases hrun
  obtain ⟨tag', f', hcs', hf', htag, hwk⟩ := I.cs.wokenBy hL (RMH.refl w) g g'
  obtain ⟨D', eq, hW, hfu, hj', _, hbl⟩ := I.workers (hb' := hb) (w' := w) (fun _ _ => rfl) (fun y hy => EnvH.refl w) g g'
  have hi0 : (x == 0) = false := by simp; omega
  have hr := runT_crowd_go (P := Try.prog) (sl := sl) (i := x) hg (by rw [hi0]; exact hst w)
  have hsz := I.size
  have hg0 : ∀ op ∈ MemOp.ofEvents x g.frame.fn g.frame.place es, op.g = x := ofEvents_g
  have e3 : sumTo p.K (upd q x k) + q x = sumTo p.K q + k := sumTo_upd q k id hx
  have hph : phi tag' = phi tag := phi_retag htag
  have I' : IS p n L0 all Ld T Z B0 W ((gs.map (woken Try.prog g g' w)).setIfInBounds x g') w j D' tag' f' d0 (woken Try.prog g g' w a) st sm (upd q x k) hb wd m Ow c (t ++ MemOp.ofEvents x g.frame.fn g.frame.place es) := by
   refine { a0 := by rw [get_map_set _ _ _ _ (by omega), I.a0]; rfl, cs := hcs', size := by simp [hsz], old := fun y z h0 hy hz => ?_, wk := fun y hy => ?_, deaf0 := by rw [Deaf_other t (by omega) _ hg0, I.deaf0], deafW := fun y hy => by rw [Deaf_other t (by omega) _ hg0, I.deafW y hy, eq.deaf], rel := fun y hy hs => ?_, above := fun y hy => by rw [Deaf_other t (by omega) _ hg0]; exact I.above y hy, fresh := fun y hy => by rw [hj' y hy]; exact I.fresh y hy, mid := ?_, wg := I.wg, mode := by have := I.mode.retag htag; rwa [show (fun y => md (D' y)) = fun y => md (D y) from funext fun y => eq.md y], mu := I.mu, jj := by rw [eq.q, eq.q]; exact I.jj, cl := I.cl, al := by rw [eq.tok]; exact I.al, cr := fun y hy => by rw [eq.q, eq.c]; exact I.cr y hy, ct := by rw [eq.rest, eq.rest]; exact I.ct, ne := fun y hy ph => by rw [eq.q, eq.rest]; exact I.ne y hy ph, sz := by rw [eq.alft, eq.alft]; exact I.sz, own := fun y b hy => by rw [eq.o]; exact I.own y b hy, owl := I.owl, hbl := I.hbl, hbj := I.hbj, acq := fun e => ?_, kp := I.kp, live := I.live, lo := I.lo, bl := fun y hy h => I.bl y hy (hbl y hy h), dep := fun y hy ph => by rw [eq.M1, eq.q, eq.k]; unfold M1; rw [hph]; exact I.dep y hy ph }
   ·by_cases e : y = x
    ·subst e
     rw [get_map_set_same _ _ _ (by omega)] at hz
     obtain rfl := Option.some.inj hz
     rw [upd_same, Deaf_own]
     exact hq'
    ·rw [get_map_set _ _ _ _ (Ne.symm e)] at hz
     obtain ⟨z', hz', rfl⟩ := Option.map_eq_some_iff.1 hz
     have hqy := I.old y z' h0 hy hz'
     rw [woken_quitsD hqy, Deaf_other t (Ne.symm e) _ hg0, upd_ne q _ e]
     exact hqy
   ·obtain ⟨z, hz, _⟩ := I.wk y hy
    exact ⟨_, by rw [get_map_set _ _ _ _ (by omega), hz]; rfl, hW y hy z hz⟩
   ·rw [eq.q] at hs
    obtain ⟨r, hr⟩ := I.rel y hy hs
    exact ⟨r, hr.app (hr.1.appOther hg0 (by omega)) fun op hop hog => absurd ((hg0 op hop).symm.trans hog) (by omega)⟩
   ·rw [eq.tok]
    refine sil_mid I.mid fun e he => ⟨touch_mute (hm e he), ⟨fun h => ?_, fun h => ?_⟩, low_mute (hm e he) _⟩ <;> (have := hm e he; obtain ⟨loc, wr, sy⟩ := e; cases loc <;> simp_all [Event.mute, MemAct.ofEvent])
   ·rcases htag with rfl | ⟨_, rfl⟩
    ·exact (I.acq e).app fun y r hy hr => hr.app (hr.1.appOther hg0 (by omega)) fun op hop hog => absurd ((hg0 op hop).symm.trans hog) (by omega)
    ·cases e
  refine ⟨_, _, (M1 tag' wd D', M2 D' f' p.K (upd q x k)), hr, ?_, _, w, sl, j, D', tag', f', d0, _, st, sm, upd q x k, hb, wd, m, Ow, c, rfl, I', rfl⟩
  rw [eq.M1, show M1 tag' wd D = M1 tag wd D by unfold M1; rw [hph]]
  refine Prod.Lex.right _ ?_
  have h0 := (hfu 0).2
  have h1 := (hfu 1).2
  unfold M2
  rw [hqp] at e3
  omega
theorem IS.caller (G : GeoH p n L0 B0) (I : IS p n L0 all Ld T Z B0 W gs w j D tag f0 d0 a st sm q hb wd m Ow c t)
  {a' : Goroutine} {es : Array Event} {tag' : CTag} {f' : Nat} {st' sm' : Int} (hgo : stepG Try.prog true a w = .go a' w' es)
  (hch : ∀ b, b ≠ p.Wg → ¬ (hb = some b ∧ j ≤ 1) → w'.heap[b]? = w.heap[b]?) (ht : w'.tape = w.tape) (ho : w'.output = w.output) (hos : w'.os = w.os) (hsz : w'.heap.size = w.heap.size)
  (hok : ∀ e ∈ es, OkM (p.w hb) Ow w'.heap.size j (.ofEvent e)) (hcs' : CSH p n L0 all Ld tag' j hb f' (deafBehind d0 es) a' w') (hwg : WgAt 108 p.Wg w' st' sm') (hmode : Lk.Mode j (fun y => md (D y)) tag' st' sm')
  (hacq : tag' = .ld → AcqH p.Wg p.K j (t ++ MemOp.ofEvents 0 a.frame.fn a.frame.place es)) (hlt : phi tag' < phi tag ∨ (phi tag' = phi tag ∧ (f' + 3 ≤ f0 ∨ (f' < f0 ∧ a'.status = .blocked)))) :
  ∃ m₁ ops μ', runT Try.prog (crowd gs w sl) 0 = (.next m₁, ops) ∧ Lt2 μ' (M1 tag wd D, M2 D f0 p.K q) ∧ InvH p n L0 all Ld T Z B0 W μ' m₁ (t ++ ops) := by
 have h2 := I.two
 have hK := G.ok.k0
 have hsz0 := I.size
 have nhb : ∀ b, b < L0 → ¬ (hb = some b ∧ j ≤ 1) := fun b h ⟨e, _⟩ => by have := (I.hbl b e).1; omega
 have bM : w'.heap[p.Mu]? = w.heap[p.Mu]? := hch _ G.ok.wm.symm (nhb _ G.mL)
 have bA : w'.heap[p.Al]? = w.heap[p.Al]? := hch _ (Ne.symm G.ok.wa) (nhb _ G.aL)
 have live' : LiveH p n w → LiveH p n w' := fun l => ⟨⟨_, _, hwg⟩, let ⟨x, y, e⟩ := l.mu; ⟨x, y, bM.trans e⟩, let ⟨x, hx, e⟩ := l.al; ⟨x, hx, bA.trans e⟩⟩
 have hE : ∀ y, y < j → EnvH (p.x hb y) n y (D y).o (D y).q.crit w w' := fun y hy => by
  obtain ⟨eS, eW, eM, eA, eK⟩ := px_w p hb y
  refine ⟨fun b hr => ?_, fun b e => ?_, fun l => liveX.2 (live' (liveX.1 l)), fun _ => by rw [eA]; exact bA, fun _ => by rw [eW]; exact ⟨_, _, hwg⟩⟩
  ·rw [px_rb p hb y (by omega)] at hr
   refine hch b ((I.okw G).rb y b hr).1 fun ⟨e, hj1⟩ => ?_
   rcases hr with hr | ⟨h1, _⟩
   ·have := G.rL y b hr; have := (I.hbl b e).1; omega
   ·omega
  ·have h1 := (I.mid.ow y b (I.own y b hy e)).2.2.1
   exact hch b h1 fun ⟨e', _⟩ => (I.owl y b (I.own y b hy e)).2 e'
 obtain ⟨D', eq, hW, hfu, hj', hfb, hbl⟩ := I.workers (hb' := hb) (fun _ _ => rfl) hE a a'
 have hrun := runT_crowd_go (P := Try.prog) (sl := sl) (i := 0) I.a0 (by simpa using hgo)
 have hg0 : ∀ op ∈ MemOp.ofEvents 0 a.frame.fn a.frame.place es, op.g = 0 := ofEvents_g
 have hMle : M1 tag' wd D ≤ M1 tag wd D := by
  unfold M1
  rcases hlt with h | ⟨h, _⟩ <;> omega
 have I' : IS p n L0 all Ld T Z B0 W ((gs.map (woken Try.prog a a' w')).setIfInBounds 0 a') w' j D' tag' f' (deafBehind d0 es) a' st' sm' q hb wd m Ow c (t ++ MemOp.ofEvents 0 a.frame.fn a.frame.place es) := by
  refine { a0 := get_map_set_same _ _ _ (by omega), cs := hcs', size := by simp [hsz0], old := fun y z h0 hy hz => ?_, wk := fun y hy => ?_, deaf0 := by rw [Deaf_own, I.deaf0], deafW := fun y hy => by rw [Deaf_other t (by omega) _ hg0, I.deafW y hy, eq.deaf], rel := fun y hy hs => ?_, above := fun y hy => by rw [Deaf_other t (by omega) _ hg0]; exact I.above y hy, fresh := fun y hy => by rw [hj' y hy]; exact I.fresh y hy, mid := ?_, wg := hwg, mode := by rwa [show (fun y => md (D' y)) = fun y => md (D y) from funext fun y => eq.md y], mu := bM.trans I.mu, jj := by rw [eq.q, eq.q]; exact I.jj, cl := I.cl, al := fun h => bA.trans (I.al (by rw [← eq.tok]; exact h)), cr := fun y hy => by rw [eq.q, eq.c]; exact I.cr y hy, ct := by rw [eq.rest, eq.rest]; exact I.ct, ne := fun y hy ph => by rw [eq.q, eq.rest]; exact I.ne y hy ph, sz := by rw [eq.alft, eq.alft, hsz]; exact I.sz, own := fun y b hy => by rw [eq.o]; exact I.own y b hy, owl := I.owl, hbl := fun b e => by rw [hsz]; exact I.hbl b e, hbj := I.hbj, acq := hacq, kp := ?_, live := live' I.live, lo := by rw [hsz]; exact I.lo, bl := fun y hy h => I.bl y hy (hbl y hy h), dep := fun y hy ph => by rw [eq.M1, eq.q, eq.k]; exact fun h => Nat.le_trans hMle (I.dep y hy ph h) }
  ·rw [get_map_set _ _ _ _ (by omega)] at hz
   obtain ⟨z', hz', rfl⟩ := Option.map_eq_some_iff.1 hz
   have hq := I.old y z' h0 hy hz'
   rw [woken_quitsD hq, Deaf_other t (by omega) _ hg0]
   exact hq
  ·obtain ⟨z, hz, _⟩ := I.wk y hy
   exact ⟨_, by rw [get_map_set _ _ _ _ (by omega), hz]; rfl, hW y hy z hz⟩
  ·rw [eq.q] at hs
   obtain ⟨r, hr⟩ := I.rel y hy hs
   exact ⟨r, hr.app (hr.1.appOther hg0 (by omega)) fun op hop hog => absurd ((hg0 op hop).symm.trans hog) (by omega)⟩
  ·rw [eq.tok, hsz]
   refine I.mid.app0 (I.okw G) hg0 fun op hop => ?_
   obtain ⟨e, he, rfl⟩ := Go.Conc.mem_ofEvents hop
   have := hok e he
   rwa [hsz] at this
  ·refine I.kp.trans ⟨ht, by rw [hos]; exact .refl _, ho, Nat.le_of_eq hsz.symm, fun b hlt => hch b (by have := G.wB; omega) (nhb b ?_)⟩
   have := G.wB; have := G.wL; omega
 refine ⟨_, _, (M1 tag' wd D', M2 D' f' p.K q), hrun, ?_, _, w', sl, j, D', tag', f', _, a', st', sm', q, hb, wd, m, Ow, c, rfl, I', rfl⟩
 rw [eq.M1]
 rcases hlt with h | ⟨h1, h3⟩
 ·exact Prod.Lex.left _ _ (by unfold M1; omega)
 ·rw [show M1 tag' wd D = M1 tag wd D by unfold M1; rw [h1]]
  refine Prod.Lex.right _ ?_
  have h0 := (hfu 0).2
  have h4 := (hfu 1).2
  unfold M2
  rcases h3 with h3 | ⟨h3, h5⟩
  ·omega
  ·have := hfb h5 0; have := hfb h5 1; omega
end
end Go.Proofs.Ytnikfjfcbpeieaa.Hk
end
section
namespace Go.Proofs.Ytnikfjfcbpeieaa.Hk
open Go Go.Conc Go.Proofs.Ytnikfjfcbpeieaa.Lk
open Go.ConcN (sumTo upd sumTo_upd sumTo_upd_out upd_ne upd_same sumTo_congr RelBy get_map_set get_map_set_same le_sumTo Deaf_still)
open Go.ConcR (KK wgBlock WgAt stA smA rd wr)
set_option linter.unusedVariables false
set_option linter.unusedSimpArgs false
section
variable {p : Pl} {n L0 : Nat} {all : Nat → List Int} {Ld : Goroutine → World → Prop} {T : List Int} {Z B0 : Nat} {W : World}
 {gs : Array Goroutine} {w w' : World} {sl : Option (Nat × Nat)} {j : Nat} {D : Nat → WDH} {tag : CTag} {f0 d0 : Nat} {a : Goroutine} {st sm : Int} {q : Nat → Nat} {hb : Option Nat} {wd : Wd} {m : Bool} {Ow : Nat → Nat → Prop} {c : List Int} {t : Trace}
theorem IS.make (G : GeoH p n L0 B0) (hL : ∀ g w, Ld g w → g.status = .running) (I : IS p n L0 all Ld T Z B0 W gs w 1 D (.sp 0 6) f0 0 a st sm q none wd m Ow c t)
  {a' : Goroutine} {ob : Obj} {es : Array Event} (hgo : stepG Try.prog true a w = .go a' (w.alloc ob) es) (hes : ∀ e ∈ es, SilE p (w.heap.size + 1) e) (h : Sc3 p n L0 all Ld w.heap.size a' (w.alloc ob)) :
  ∃ m₁ ops μ', runT Try.prog (crowd gs w sl) 0 = (.next m₁, ops) ∧ Lt2 μ' (M1 (.sp 0 6) wd D, M2 D f0 p.K q) ∧ InvH p n L0 all Ld T Z B0 W μ' m₁ (t ++ ops) := by
 have hK := G.ok.k0
 have hsz0 := I.size
 have lo := I.lo
 have gw := G.wL
 have gm := G.mL
 have ga := G.aL
 have hsz := heap_push_size w ob
 have old : ∀ {b : Nat}, b < w.heap.size → (w.alloc ob).heap[b]? = w.heap[b]? := fun h => heap_push_old w ob h
 have owb : ∀ y b, Ow y b → b < w.heap.size := fun y b h => (I.mid.ow y b h).2.1
 have ex : ∀ y, y < 1 → p.x (some w.heap.size) y = p.x none y := fun y hy => by
  obtain rfl : y = 0 := by omega
  rfl
 have hE : ∀ y, y < 1 → EnvH (p.x none y) n y (D y).o (D y).q.crit w (w.alloc ob) := fun y hy => by
  obtain ⟨eS, eW, eM, eA, eK⟩ := px_w p none y
  refine ⟨fun b hr => ?_, fun b e => old (owb y b (I.own y b hy e)), fun l => l.push ob, fun _ => by rw [eA]; exact old (by omega), fun ⟨s, u, e⟩ => ⟨s, u, (old (Array.getElem?_eq_some_iff.1 e).1).trans e⟩⟩
  rw [px_rb p none y (by omega)] at hr
  rcases hr with hr | ⟨_, hr⟩
  ·have := G.rL y b hr; exact old (by omega)
  ·cases hr
 obtain ⟨D', eq, hW, hfu, hj', _, hbl⟩ := I.workers ex hE a a'
 have hrun := runT_crowd_go (P := Try.prog) (sl := sl) (i := 0) I.a0 (by simpa using hgo)
 have hg0 : ∀ op ∈ MemOp.ofEvents 0 a.frame.fn a.frame.place es, op.g = 0 := ofEvents_g
 have hM : M1 (.sp 0 5) wd D < M1 (.sp 0 6) wd D := by unfold M1; simp only [phi]; omega
 obtain ⟨m2, h⟩ := h
 have hdd : deafBehind 0 es = 0 := deafBehind_still (fun e he => (hes e he).2.2.2) 0
 obtain ⟨hop, rfl, rfl, _, _⟩ := I.mode.inv trivial
 have I' : IS p n L0 all Ld T Z B0 W ((gs.map (woken Try.prog a a' (w.alloc ob))).setIfInBounds 0 a') (w.alloc ob) 1 D' (.sp 0 5) (3 * m2 + 1) 0 a' (((Vc 1 (fun i => md (D i)) + pend (.sp 0 6) : Nat) : Int) * KK) 0 q (some w.heap.size) wd m Ow c (t ++ MemOp.ofEvents 0 a.frame.fn a.frame.place es) := by
  refine { a0 := get_map_set_same _ _ _ (by omega), cs := .skd (r := 0) (.inr ⟨rfl, _, rfl⟩) h, size := by simp [hsz0], old := fun y z h0 hy hz => ?_, wk := fun y hy => ?_, deaf0 := by rw [Deaf_own, I.deaf0, hdd], deafW := fun y hy => by rw [Deaf_other t (by omega) _ hg0, I.deafW y hy, eq.deaf], rel := fun y hy hs => ?_, above := fun y hy => by rw [Deaf_other t (by omega) _ hg0]; exact I.above y hy, fresh := fun y hy => by rw [hj' y hy]; exact I.fresh y hy, mid := ?_, wg := show WgAt 108 p.Wg _ _ _ from (old (by omega)).trans I.wg, mode := ?_, mu := (old (by omega)).trans I.mu, jj := by rw [eq.q, eq.q]; exact I.jj, cl := I.cl, al := fun h => (old (by omega)).trans (I.al (by rw [← eq.tok]; exact h)), cr := fun y hy => by rw [eq.q, eq.c]; exact I.cr y hy, ct := by rw [eq.rest, eq.rest]; exact I.ct, ne := fun y hy ph => by rw [eq.q, eq.rest]; exact I.ne y hy ph, sz := ?_, own := fun y b hy => by rw [eq.o]; exact I.own y b hy, owl := fun y b h => ⟨(I.owl y b h).1, fun e => by have := owb y b h; simp only [Option.some.injEq] at e; omega⟩, hbl := fun b e => by simp only [Option.some.injEq] at e; omega, hbj := ⟨fun e => (by omega), fun e => (by omega)⟩, acq := fun e => (by cases e), kp := ?_, live := I.live.push ob, lo := by omega, bl := fun y hy h => I.bl y hy (hbl y hy h), dep := fun y hy ph => by rw [eq.M1, eq.q, eq.k]; exact fun h => Nat.le_trans (Nat.le_of_lt hM) (I.dep y hy ph h) }
  ·rw [get_map_set _ _ _ _ (by omega)] at hz
   obtain ⟨z', hz', rfl⟩ := Option.map_eq_some_iff.1 hz
   have hq := I.old y z' h0 hy hz'
   rw [woken_quitsD hq, Deaf_other t (by omega) _ hg0]
   exact hq
  ·obtain ⟨z, hz, _⟩ := I.wk y hy
   exact ⟨_, by rw [get_map_set _ _ _ _ (by omega), hz]; rfl, hW y hy z hz⟩
  ·rw [eq.q] at hs
   obtain ⟨r, hr⟩ := I.rel y hy hs
   exact ⟨r, hr.app (hr.1.appOther hg0 (by omega)) fun op hop hog => absurd ((hg0 op hop).symm.trans hog) (by omega)⟩
  ·rw [eq.tok]
   have h1 : MidH (p.w (some w.heap.size)) Ow w.heap.size 1 (tokD D) t := I.mid.turn ⟨rfl, rfl, rfl, rfl, rfl⟩ fun x hx => by
    obtain rfl : x = 0 := by omega
    funext b
    simp [Pl.w]
   exact sil_mid (h1.mono (by omega)) fun e he => by
    obtain ⟨h3, h4, h5, _⟩ := hes e he
    exact ⟨h3, h4, by rw [hsz]; exact h5⟩
  ·rw [show (fun y => md (D' y)) = fun y => md (D y) from funext fun y => eq.md y]
   exact .opn (tag := .sp 0 5) trivial hop (by simp) (by simp)
  ·rw [eq.alft, eq.alft, hsz]
   have := I.sz
   simp only [if_true] at this
   simp only [reduceCtorEq, if_false]
   omega
  ·refine I.kp.trans ⟨rfl, .refl _, rfl, by omega, fun b hlt => old ?_⟩
   have := G.wB; omega
 refine ⟨_, _, (M1 (.sp 0 5) wd D', M2 D' (3 * m2 + 1) p.K q), hrun, ?_, _, _, sl, 1, D', .sp 0 5, _, 0, a', _, _, q, some w.heap.size, wd, m, Ow, c, rfl, I', rfl⟩
 rw [eq.M1]
 exact Prod.Lex.left _ _ hM
theorem IS.spawn (G : GeoH p n L0 B0) (I : IS p n L0 all Ld T Z B0 W gs w j D tag f0 0 a st sm q hb wd m Ow c t) (hj : j < 2)
  {a' child : Goroutine} {tag' : CTag} {f' : Nat} (hsp : stepG Try.prog true a w = .spawn a' child w #[]) (hch : ∀ k, StartW (p.x hb j) n j (all j) k child w) (hcs : CSH p n L0 all Ld tag' (j + 1) hb f' 0 a' w) (ht : phi tag' < phi tag) (hld : tag' ≠ .ld)
  (hmode : ∀ D', (∀ i, D' i = upd (fun y => md (D y)) j ⟨[], 7, 0, 0⟩ i) → Lk.Mode (j + 1) D' tag' st sm) (hhb : j = 1 → hb ≠ none) :
  ∃ m₁ ops μ', runT Try.prog (crowd gs w sl) 0 = (.next m₁, ops) ∧ Lt2 μ' (M1 tag wd D, M2 D f0 p.K q) ∧ InvH p n L0 all Ld T Z B0 W μ' m₁ (t ++ ops) := by
 have hK := G.ok.k0
 have hsz := I.size
 have hrun' := runT_crowd_spawn (P := Try.prog) (sl := sl) (i := 0) I.a0 (by simpa using hsp)
 rw [hsz] at hrun'
 have hfr := I.fresh j (Nat.le_refl _)
 obtain ⟨f1, d, hd, hws⟩ : ∃ f1 d, d = { dFresh (all j) with fuel := f1, k := M1 tag' wd D } ∧ WSH (p.x hb j) n j d child w := by
  by_cases e : all j = []
  ·obtain ⟨m1, h⟩ := (hch 0).1 e
   exact ⟨3 * m1 + 1, _, rfl, by rw [e]; exact .r0 h⟩
  ·obtain ⟨m1, h⟩ := (hch (M1 tag' wd D + 1)).2 e
   refine ⟨3 * m1 + 1, _, rfl, ?_⟩
   simp only [dFresh, if_neg e]
   exact .lap (ph := .al) (o := none) (by simp) h
 obtain ⟨D', hD'⟩ : ∃ D', D' = upd D j d := ⟨_, rfl⟩
 have hDj : D' j = d := by rw [hD', upd_same]
 have hDn : ∀ y, y ≠ j → D' y = D y := fun y h => by rw [hD', upd_ne D _ h]
 have eqq : ∀ y, (D' y).q = (D y).q ∧ (D' y).rest = (D y).rest ∧ (D' y).c = (D y).c ∧ (D' y).o = (D y).o ∧ (D' y).deaf = (D y).deaf := fun y => by
  by_cases e : y = j
  ·subst e; rw [hDj, hd, hfr]; exact ⟨rfl, rfl, rfl, rfl, rfl⟩
  ·rw [hDn y e]; exact ⟨rfl, rfl, rfl, rfl, rfl⟩
 have eL : ∀ y, lenH wd (D' y) = lenH wd (D y) := fun y => by unfold lenH; rw [(eqq y).1, (eqq y).2.1]
 have eA : ∀ y, alft (D' y) = alft (D y) := fun y => by unfold alft; rw [(eqq y).1, (eqq y).2.1]
 have eT : tokD D' = tokD D := by unfold tokD; rw [(eqq 0).1, (eqq 1).1]
 have eM : ∀ tag, M1 tag wd D' = M1 tag wd D := fun tag => by unfold M1; rw [eL, eL]
 have hM : M1 tag' wd D < M1 tag wd D := by unfold M1; omega
 have hmd : ∀ i, md (D' i) = upd (fun y => md (D y)) j ⟨[], 7, 0, 0⟩ i := fun i => by
  by_cases e : i = j
  ·subst e
   rw [hDj, upd_same, hd]
   unfold md dFresh
   by_cases e : all i = [] <;> simp [e, Wp.stage]
  ·rw [hDn i e, upd_ne _ _ e]
 have hm : ∀ (x y : MemOp), ∀ op ∈ #[x, y], op = x ∨ op = y := by intro x y op hop; simpa using hop
 obtain ⟨x, hx⟩ : ∃ x : MemOp, x = { g := 0, fn := a.frame.fn, pos := a.frame.place, act := .go (p.K + j) } := ⟨_, rfl⟩
 obtain ⟨y, hy⟩ : ∃ y : MemOp, y = { g := p.K + j, fn := child.frame.fn, pos := a.frame.place, act := .start } := ⟨_, rfl⟩
 have hst : ∀ op ∈ #[x, y], op.act ≠ .mark .disable ∧ op.act ≠ .mark .enable := by
  intro op hop
  rcases hm x y op hop with rfl | rfl
  ·rw [hx]; exact ⟨by simp, by simp⟩
  ·rw [hy]; exact ⟨by simp, by simp⟩
 have hget : ∀ z, 0 < z → z < p.K + j → ((gs.setIfInBounds 0 a').push child)[z]? = gs[z]? := fun z h0 hz => by
  rw [Array.getElem?_push_lt (by simp [hsz]; omega), ← Array.getElem?_eq_getElem, Array.getElem?_setIfInBounds_ne (by omega)]
 have I' : IS p n L0 all Ld T Z B0 W ((gs.setIfInBounds 0 a').push child) w (j + 1) D' tag' f' 0 a' st sm q hb wd m Ow c (t ++ #[x, y]) := by
  refine { a0 := ?_, cs := hcs, size := by simp [hsz]; omega, old := fun z g h0 hz hg => ?_, wk := fun i hi => ?_, deaf0 := by rw [Deaf_still t 0 _ hst, I.deaf0], deafW := fun i hi => ?_, rel := fun i hi hs => ?_, above := fun z hz => by rw [Deaf_still t _ _ hst]; exact I.above z (by omega), fresh := fun i hi => by rw [hDn i (by omega)]; exact I.fresh i (by omega), mid := ?_, wg := I.wg, mode := hmode _ hmd, mu := I.mu, jj := by rw [(eqq 0).1, (eqq 1).1]; exact I.jj, cl := I.cl, al := fun h => I.al (by rw [← eT]; exact h), cr := fun z hz => by rw [(eqq z).1, (eqq z).2.2.1]; exact I.cr z hz, ct := by rw [(eqq 0).2.1, (eqq 1).2.1]; exact I.ct, ne := fun z hz ph => by rw [(eqq z).1, (eqq z).2.1]; exact I.ne z hz ph, sz := by rw [eA, eA]; exact I.sz, own := fun i b hi => ?_, owl := I.owl, hbl := I.hbl, hbj := ⟨fun e => by omega, fun e => hhb (by omega)⟩, acq := fun e => absurd e hld, kp := I.kp, live := I.live, lo := I.lo, bl := fun z hz h => ?_, dep := fun i hi ph hp => ?_ }
  ·rw [Array.getElem?_push_lt (by simp; omega), ← Array.getElem?_eq_getElem, Array.getElem?_setIfInBounds_self_of_lt (by omega)]
  ·rw [hget z h0 (by omega)] at hg
   rw [Deaf_still t z _ hst]
   exact I.old z g h0 hz hg
  ·rcases Nat.lt_or_ge i j with hlt | hge
   ·obtain ⟨g, hg, hs⟩ := I.wk i hlt
    exact ⟨g, by rw [hget _ (by omega) (by omega)]; exact hg, by rw [hDn i (by omega)]; exact hs⟩
   ·obtain rfl : i = j := by omega
    refine ⟨child, ?_, by rw [hDj]; exact hws⟩
    rw [show p.K + i = (gs.setIfInBounds 0 a').size by simp [hsz], Array.getElem?_push_size]
  ·rw [Deaf_still t _ _ hst, (eqq i).2.2.2.2]
   rcases Nat.lt_or_ge i j with hlt | hge
   ·exact I.deafW i hlt
   ·obtain rfl : i = j := by omega
    rw [hfr]; exact I.above _ (Nat.le_refl _)
  ·rcases Nat.lt_or_ge i j with hlt | hge
   ·rw [hDn i (by omega)] at hs
    obtain ⟨r, hr⟩ := I.rel i hlt hs
    refine ⟨r, hr.app (RelBy.appNot hr.1 fun op hop => ?_) fun op hop hog => ?_⟩
    ·rcases hm x y op hop with rfl | rfl
     ·rw [hx]; show (0 : Nat) ≠ _; omega
     ·rw [hy]; show p.K + j ≠ _; omega
    ·rcases hm x y op hop with rfl | rfl
     ·rw [hx] at hog; exact absurd (show (0 : Nat) = p.K + i from hog) (by omega)
     ·rw [hy] at hog; exact absurd (show p.K + j = p.K + i from hog) (by omega)
   ·obtain rfl : i = j := by omega
    rw [(eqq i).1, hfr] at hs
    unfold dFresh at hs
    by_cases e : all i = [] <;> simp [e, Wp.stage] at hs
  ·rw [eT]
   exact I.mid.fork (I.okw G) (fun z b o hr => by
    rcases hr with hr | ⟨_, hr⟩
    ·have := G.rL j b hr; have := (I.owl z b o).1; omega
    ·exact (I.owl z b o).2 hr) (by rw [hx]; exact ⟨rfl, rfl⟩) (by rw [hy]; exact ⟨rfl, rfl⟩) I.deaf0 (I.above _ (Nat.le_refl _))
  ·rcases Nat.lt_or_ge i j with hlt | hge
   ·rw [hDn i (by omega)]; exact I.own i b hlt
   ·obtain rfl : i = j := by omega
    rw [(eqq i).2.2.2.1, hfr]; intro e; cases e
  ·by_cases e : z = j
   ·subst e
    obtain ⟨⟨sv, e⟩, _⟩ := h
    rw [(eqq z).1, hfr] at e
    unfold dFresh at e
    by_cases e' : all z = [] <;> simp [e'] at e
   ·rw [hDn z e] at h; exact I.bl z hz h
  ·rw [eM]
   rcases Nat.lt_or_ge i j with hlt | hge
   ·rw [hDn i (by omega)] at hp ⊢
    exact Nat.le_trans (Nat.le_of_lt hM) (I.dep i hlt ph hp)
   ·obtain rfl : i = j := by omega
    rw [hDj, hd]; exact Nat.le_refl _
 refine ⟨_, _, (M1 tag' wd D', M2 D' f' p.K q), hrun', ?_, _, w, sl, j + 1, D', tag', f', 0, a', st, sm, q, hb, wd, m, Ow, c, rfl, by rw [← hx, ← hy]; exact I', rfl⟩
 rw [eM]
 exact Prod.Lex.left _ _ hM
theorem okM_of (G : GeoH p n L0 B0) (I : IS p n L0 all Ld T Z B0 W gs w j D tag f0 d0 a st sm q hb wd m Ow c t) {ho : Option Nat} (hho : ho = none ∨ (ho = hb ∧ j ≤ 1)) {B : Nat} {e : Event} (h : OkS p L0 ho B e) : OkM (p.w hb) Ow B j (.ofEvent e) := by
 obtain ⟨h1, h2, h3, _, _⟩ := h
 have gw := G.wL
 have gm := G.mL
 have ga := G.aL
 have gB := G.wB
 refine ⟨fun y hy => ?_, h2, h3⟩
 rcases h1 y hy with h | ⟨ad, e, h | h⟩
 ·exact .inl h
 ·obtain ⟨h4, h5, h6, h7, h8, h9⟩ := h
  refine .inr ⟨?_, ?_, fun hw => (by rw [h9] at hw; cases hw), ?_, fun x => ?_⟩
  ·rintro ⟨b, eb, hb'⟩
   rw [e] at eb; cases eb
   rcases hb' with hb' | ⟨hb', _⟩
   ·exact h5 hb'
   ·exact h6 hb'
  ·rintro ⟨b, eb, hb'⟩
   rw [e] at eb; cases eb
   exact absurd hb' h8
  ·rintro ⟨b, eb, hb'⟩
   rw [e] at eb; cases eb
   exact h7 hb'
  ·rintro ⟨b, eb, hb'⟩
   rw [e] at eb; cases eb
   have := (I.owl x _ hb').1; omega
 ·rcases hho with rfl | ⟨rfl, hj⟩
  ·cases h
  obtain ⟨l1, l2⟩ := I.hbl _ h
  refine .inr ⟨?_, ?_, fun _ i hi => ?_, ?_, fun x => ?_⟩
  ·rintro ⟨b, eb, hb'⟩
   rw [e] at eb; cases eb
   rcases hb' with hb' | ⟨hb', _⟩
   ·have hb' : ad.block = p.Wg := hb'; omega
   ·have hb' : ad.block = p.Mu := hb'; omega
  ·rintro ⟨b, eb, hb'⟩
   rw [e] at eb; cases eb
   have := G.sB _ hb'; omega
  ·rintro ⟨b, eb, hb'⟩
   rw [e] at eb; cases eb
   rcases hb' with (hb' | ⟨h, _⟩) | ⟨hb', _⟩
   ·have := G.rL _ _ hb'; omega
   ·omega
   ·have hb' : ad.block = p.Mu := hb'; omega
  ·rintro ⟨b, eb, hb'⟩
   rw [e] at eb; cases eb
   have hb' : ad.block = p.Al := hb'; omega
  ·rintro ⟨b, eb, hb'⟩
   rw [e] at eb; cases eb
   exact (I.owl x _ hb').2 h
end
end Go.Proofs.Ytnikfjfcbpeieaa.Hk
end
section
namespace Go.Proofs.Ytnikfjfcbpeieaa.Hk
open Go Go.Conc Go.Proofs.Ytnikfjfcbpeieaa.Lk
open Go.ConcN (sumTo upd sumTo_upd sumTo_upd_out upd_ne upd_same sumTo_congr RelBy get_map_set get_map_set_same le_sumTo Deaf_still)
open Go.ConcR (KK wgBlock WgAt stA smA rd wr mk)
set_option linter.unusedVariables false
set_option linter.unusedSimpArgs false
section
variable {p : Pl} {n L0 : Nat} {all : Nat → List Int} {Ld : Goroutine → World → Prop} {T : List Int} {Z B0 : Nat} {W : World}
 {gs : Array Goroutine} {w w' : World} {sl : Option (Nat × Nat)} {j : Nat} {D : Nat → WDH} {tag : CTag} {f0 d0 : Nat} {a : Goroutine} {st sm : Int} {q : Nat → Nat} {hb : Option Nat} {wd : Wd} {m : Bool} {Ow : Nat → Nat → Prop} {c : List Int} {t : Trace}
theorem okM_mute {B : Nat} {e : Event} (h : e.mute = true) : OkM (p.w hb) Ow B j (.ofEvent e) := by
 refine ⟨fun y hy => (by rw [touch_mute h] at hy; cases hy), ⟨fun he => ?_, fun he => ?_⟩, low_mute h B⟩ <;>
 ·obtain ⟨loc, wr, sy⟩ := e
  cases loc <;> simp_all [Event.mute, MemAct.ofEvent]
theorem okM_cell {B : Nat} (o : Nat) (x : Bool) (h : p.Wg < B) : OkM (p.w hb) Ow B j (.ofEvent ⟨.cell ⟨p.Wg, o, none⟩, x, true⟩) := by
 refine ⟨fun y hy => .inl ?_, ⟨by simp [MemAct.ofEvent], by simp [MemAct.ofEvent]⟩, h⟩
 simp only [MemAct.ofEvent, MemAct.touch?, Option.some.injEq] at hy
 subst hy
 exact ⟨⟨_, rfl, .inl rfl⟩, by simp⟩
theorem okr_j {r j : Nat} {hb : Option Nat} (h : okr r hb) (e : j = 1 - r) : j ≤ 1 ∧ r ≤ 1 ∧ j + r = 1 := by rcases h with ⟨rfl, _⟩ | ⟨rfl, _⟩ <;> omega
theorem IS.stepCaller (G : GeoH p n L0 B0) (hL : ∀ g w, Ld g w → g.status = .running) (I : IS p n L0 all Ld T Z B0 W gs w j D tag f0 d0 a st sm q hb wd m Ow c t) (hrun : a.status = .running) :
  (tag = .ld ∧ Ld a w) ∨ ∃ m₁ ops μ', runT Try.prog (crowd gs w sl) 0 = (.next m₁, ops) ∧ Lt2 μ' (M1 tag wd D, M2 D f0 p.K q) ∧ InvH p n L0 all Ld T Z B0 W μ' m₁ (t ++ ops) := by
 have h2 := I.two
 have hKp := G.ok.k0
 have hwg := I.wg
 have hmode := I.mode
 have hWs : p.Wg < w.heap.size := (Array.getElem?_eq_some_iff.1 hwg).1
 have gw := G.wL
 have refl : ∀ ho, RMH p n L0 ho w w := fun ho => RMH.refl w
 have idle : ∀ {m' : Nat} {a' : Goroutine} {w' : World} {es : Array Event} {ho : Option Nat}, (ho = none ∨ (ho = hb ∧ j ≤ 1)) → (3 * (m' + 1) + 1 ≤ f0) → stepG Try.prog true a w = .go a' w' es → DMH p n L0 ho w w' es → CSH p n L0 all Ld tag j hb (3 * m' + 1) d0 a' w' →
   ∃ m₁ ops μ', runT Try.prog (crowd gs w sl) 0 = (.next m₁, ops) ∧ Lt2 μ' (M1 tag wd D, M2 D f0 p.K q) ∧ InvH p n L0 all Ld T Z B0 W μ' m₁ (t ++ ops) := by
  intro m' a' w' es ho hho hf hgo hD hcs'
  have hd : deafBehind d0 es = d0 := deafBehind_still (fun e he => ⟨(hD.ev e he).2.2.2.1, (hD.ev e he).2.2.2.2⟩) d0
  have hw0 : w'.heap[p.Wg]? = w.heap[p.Wg]? := hD.block _ fun e => by
   rcases hho with rfl | ⟨rfl, _⟩
   ·cases e
   ·have := (I.hbl _ e).1; omega
  refine I.caller G hgo (fun b _ h => hD.block b fun e => ?_) hD.tape hD.output hD.os hD.size (fun e he => okM_of G I hho (hD.ev e he)) (by rw [hd]; exact hcs') (show WgAt 108 p.Wg w' st sm from hw0.trans hwg) hmode (fun e => ?_) (.inr ⟨rfl, .inl (by omega)⟩)
  ·rcases hho with rfl | ⟨rfl, hj⟩
   ·cases e
   ·exact h ⟨e, hj⟩
  ·exact (I.acq e).app fun i r hi hr => hr.app (hr.1.appOther ofEvents_g (by omega)) fun op hop hog => absurd ((ofEvents_g op hop).symm.trans hog) (by omega)
 have book : ∀ {a' : Goroutine} {w' : World} {es : Array Event} {tag' : CTag} {f' : Nat} {st' sm' : Int}, stepG Try.prog true a w = .go a' w' es → Aside p.Wg w w' → WgAt 108 p.Wg w' st' sm' → (∀ e ∈ es, OkM (p.w hb) Ow w'.heap.size j (.ofEvent e)) →
   CSH p n L0 all Ld tag' j hb f' (deafBehind d0 es) a' w' → Lk.Mode j (fun y => md (D y)) tag' st' sm' → (tag' = .ld → AcqH p.Wg p.K j (t ++ MemOp.ofEvents 0 a.frame.fn a.frame.place es)) → (phi tag' < phi tag ∨ (phi tag' = phi tag ∧ (f' + 3 ≤ f0 ∨ (f' < f0 ∧ a'.status = .blocked)))) →
   ∃ m₁ ops μ', runT Try.prog (crowd gs w sl) 0 = (.next m₁, ops) ∧ Lt2 μ' (M1 tag wd D, M2 D f0 p.K q) ∧ InvH p n L0 all Ld T Z B0 W μ' m₁ (t ++ ops) := by
  intro a' w' es tag' f' st' sm' hgo hA hwg' hok hcs' hm ha' hlt
  exact I.caller G hgo (fun b h _ => hA.block b h) hA.tape hA.output hA.os hA.size hok hcs' hwg' hm ha' hlt
 have asA : Aside p.Wg w w := ⟨rfl, rfl, rfl, rfl, fun _ _ => rfl⟩
 have one : ∀ (e : Event) (B : Nat), OkM (p.w hb) Ow B j (.ofEvent e) → ∀ e' ∈ (#[e] : Array Event), OkM (p.w hb) Ow B j (.ofEvent e') := fun e B h e' he => by rw [Array.mem_singleton] at he; subst he; exact h
 have okrd : ∀ e ∈ (#[rd (stA p.Wg)] : Array Event), OkM (p.w hb) Ow w.heap.size j (.ofEvent e) := one _ _ (okM_cell 0 false hWs)
 have szS : ∀ v, (w.setCell (stA p.Wg) v).heap.size = w.heap.size := fun v => (Go.Conc.aside_setCell w (stA p.Wg) v).size
 have okrw : ∀ v, ∀ e ∈ (#[rd (stA p.Wg), wr (stA p.Wg)] : Array Event), OkM (p.w hb) Ow (w.setCell (stA p.Wg) v).heap.size j (.ofEvent e) := fun v e he => by
  rw [szS]
  simp only [List.mem_toArray, List.mem_cons, List.not_mem_nil, or_false] at he
  rcases he with rfl | rfl
  ·exact okM_cell 0 false hWs
  ·exact okM_cell 0 true hWs
 have hcs := I.cs
 generalize ej : j = j0 at hcs
 generalize eh : hb = hb0 at hcs
 cases hcs with
 | @skd r m _ _ _ hr h =>
  obtain ⟨j1, r1, jr⟩ := okr_j hr ej
  rcases goes_split2 (refl _) h with hstop | ⟨m', a', w', es, e1, hgo, hD, h'⟩
  ·obtain ⟨_, a', hgo, m₂, hk'⟩ := hstop w (refl _)
   obtain ⟨ho, rfl, rfl, _, _⟩ := hmode.inv trivial
   exact .inr (book hgo asA hwg (one _ _ (okM_mute rfl)) (by subst ej eh; exact .sa hr hk') (.opn (tag := .sp r 4) trivial ho (by simp) (by simp)) (by simp) (.inl (by simp only [phi]; omega)))
  ·exact .inr (idle (m' := m') (.inr ⟨eh.symm, j1⟩) (by omega) hgo hD (by subst ej eh; exact .skd hr h'))
 | @sa r m _ _ _ hr h =>
  obtain ⟨j1, r1, jr⟩ := okr_j hr ej
  rcases goes_split2 (refl _) h with hstop | ⟨m', a', w', es, e1, hgo, hD, h'⟩
  ·obtain ⟨_, hst⟩ := hstop w (refl _)
   obtain ⟨ho, rfl, rfl, _, _⟩ := hmode.inv trivial
   have hv := vc_le (D := fun y => md (D y)) j
   obtain ⟨a', hgo, m₂, hk'⟩ := hst (Vc j (fun y => md (D y))) (by omega) (by simpa [pend] using hwg)
   refine .inr (book hgo (Go.Conc.aside_setCell w (stA p.Wg) _) (hwg.setSt _) (okrw _) (by subst ej eh; exact .ske hr hk') ?_ (by simp) (.inl (by simp only [phi]; omega)))
   exact .opn (tag := .sp r 3) trivial ho (by simp) (by simp)
  ·exact .inr (idle (m' := m') (.inr ⟨eh.symm, j1⟩) (by omega) hgo hD (by subst ej eh; exact .sa hr h'))
 | @ske r m _ _ _ hr h =>
  obtain ⟨j1, r1, jr⟩ := okr_j hr ej
  rcases goes_split2 (refl _) h with hstop | ⟨m', a', w', es, e1, hgo, hD, h'⟩
  ·obtain ⟨_, a', hgo, m₂, hk'⟩ := hstop w (refl _)
   obtain ⟨ho, rfl, rfl, _, _⟩ := hmode.inv trivial
   exact .inr (book hgo asA hwg (one _ _ (okM_mute rfl)) (by subst ej eh; exact .sgo hr hk') (.opn (tag := .sp r 2) trivial ho (by simp) (by simp)) (by simp) (.inl (by simp only [phi]; omega)))
  ·exact .inr (idle (m' := m') (.inr ⟨eh.symm, j1⟩) (by omega) hgo hD (by subst ej eh; exact .ske hr h'))
 | @sgo r m _ _ _ hr h =>
  obtain ⟨j1, r1, jr⟩ := okr_j hr ej
  rcases goes_split2 (refl _) h with hstop | ⟨m', a', w', es, e1, hgo, hD, h'⟩
  ·obtain ⟨_, a', child, hsp, _, hch, hnext⟩ := (hstop w (refl _) : MGoH p n all (1 - r) hb0 (Nxt p n L0 all Ld r) a w)
   unfold Nxt at hnext
   obtain ⟨ho, rfl, rfl, _, _⟩ := hmode.inv trivial
   subst ej eh
   have eV : ∀ D' : Nat → WD, (∀ i, D' i = upd (fun y => md (D y)) (1 - r) ⟨[], 7, 0, 0⟩ i) → Vc (1 - r + 1) D' = Vc (1 - r) (fun y => md (D y)) + 1 ∧ OpenSt (1 - r + 1) D' := fun D' hD' => by
    obtain rfl : D' = upd (fun y => md (D y)) (1 - r) ⟨[], 7, 0, 0⟩ := funext hD'
    refine ⟨?_, fun i hi => ?_⟩
    ·simp only [Vc, sumTo, upd_same]
     rw [sumTo_upd_out _ _ cnt (Nat.le_refl _)]; rfl
    ·by_cases e : i = 1 - r
     ·subst e; rw [upd_same]; exact .inl rfl
     ·rw [upd_ne _ _ e]; exact ho i (by omega)
   rcases (show r = 0 ∨ r = 1 by omega) with rfl | rfl
   ·rw [if_neg (by decide)] at hnext
    obtain ⟨m₃, hk'⟩ := hnext
    obtain ⟨b, rfl⟩ : ∃ b, hb = some b := by rcases hr with ⟨h, _⟩ | ⟨_, h⟩; (· cases h); exact h
    refine .inr (I.spawn (tag' := .kd) G (by omega) hsp hch (.kd hk') (by simp only [phi]; omega) (by simp) (fun D' hD' => ?_) (fun _ => by simp))
    obtain ⟨e1, e2⟩ := eV D' hD'
    have := Lk.Mode.opn (tag := .kd) trivial e2 (by simp) (by simp)
    rw [e1] at this
    simpa [pend] using this
   ·rw [if_pos rfl] at hnext
    obtain ⟨m₃, hk'⟩ := hnext
    obtain rfl : hb = none := by rcases hr with ⟨_, h⟩ | ⟨h, _⟩; (· exact h); cases h
    refine .inr (I.spawn (tag' := .sp 0 6) G (by omega) hsp hch (.al hk') (by simp only [phi]; omega) (by simp) (fun D' hD' => ?_) (fun h => by cases h))
    obtain ⟨e1, e2⟩ := eV D' hD'
    have := Lk.Mode.opn (tag := .sp 0 6) trivial e2 (by simp) (by simp)
    rw [e1] at this
    simpa [pend] using this
  ·exact .inr (idle (m' := m') (.inr ⟨eh.symm, j1⟩) (by omega) hgo hD (by subst ej eh; exact .sgo hr h'))
 | @al m _ _ h =>
  subst ej eh
  rcases goes_split2 (refl _) h with hstop | ⟨m', a', w', es, e1, hgo, hD, h'⟩
  ·obtain ⟨_, a', ob, es, hgo, hes, hk'⟩ := hstop w (refl _)
   exact .inr (I.make G hL hgo hes hk')
  ·exact .inr (idle (m' := m') (.inl rfl) (by omega) hgo hD (.al h'))
 | @kd m b _ _ h =>
  subst ej eh
  rcases goes_split2 (refl _) h with hstop | ⟨m', a', w', es, e1, hgo, hD, h'⟩
  ·obtain ⟨_, a', hgo, m₂, hk'⟩ := hstop w (refl _)
   obtain ⟨ho, rfl, rfl, _, _⟩ := hmode.inv trivial
   exact .inr (book hgo asA hwg (one _ _ (okM_mute rfl)) (.w1 (Nat.le_refl 2) hk') (.opn (tag := .w1 2) trivial ho (fun n e => by cases e; exact vc_le 2) (by simp)) (by simp) (.inl (by simp only [phi]; omega)))
  ·exact .inr (idle (m' := m') (.inl rfl) (by omega) hgo hD (.kd h'))
 | @w1 x m b _ _ hn h =>
  subst ej eh
  rcases goes_split2 (refl _) h with hstop | ⟨m', a', w', es, e1, hgo, hD, h'⟩
  ·have hst := hstop w (refl _)
   obtain ⟨ho, rfl, rfl, hw1, _⟩ := hmode.inv trivial
   have hv := hw1 x rfl
   cases x with
   | zero =>
    have hv0 : Vc 2 (fun y => md (D y)) = 0 := by omega
    have hwg0 : WgAt 108 p.Wg w 0 0 := by simpa [pend, hv0] using hwg
    obtain ⟨a', hgo, m₂, hk'⟩ := hst.2 hwg0
    exact .inr (book hgo asA hwg0 okrd (.ke hk') (.fin (tag := .ke) trivial (quit_of ho hv0)) (by simp) (.inl (by simp only [phi]; omega)))
   | succ x =>
    obtain ⟨a', hgo, h0, h1⟩ := hst.2 (Vc 2 (fun y => md (D y))) hv (vc_le 2) (by simpa [pend] using hwg)
    by_cases hv0 : Vc 2 (fun y => md (D y)) = 0
    ·obtain ⟨m₂, hk'⟩ := h0 hv0
     exact .inr (book hgo asA (by simpa [pend, hv0] using hwg) okrd (.ke hk') (.fin (tag := .ke) trivial (quit_of ho hv0)) (by simp) (.inl (by simp only [phi]; omega)))
    ·obtain ⟨m₂, hk'⟩ := h1 hv0
     exact .inr (book hgo asA hwg okrd (.w2 (by omega) hv (by omega) hk') (.opn (tag := .w2 x (Vc 2 (fun y => md (D y)))) trivial ho (by simp) (fun n' vs e => by cases e; exact Nat.le_refl _)) (by simp) (.inl (by simp only [phi]; omega)))
  ·exact .inr (idle (m' := m') (.inl rfl) (by omega) hgo hD (.w1 hn h'))
 | @w2 x vs m b _ _ h1 h2' h3 h =>
  subst ej eh
  rcases goes_split2 (refl _) h with hstop | ⟨m', a', w', es, e1, hgo, hD, h'⟩
  ·obtain ⟨_, hst⟩ := hstop w (refl _)
   obtain ⟨ho, rfl, rfl, _, hw2⟩ := hmode.inv trivial
   have hv := hw2 x vs rfl
   have hwg0 : WgAt 108 p.Wg w (((Vc 2 (fun y => md (D y)) : Nat) : Int) * KK) 0 := by simpa [pend] using hwg
   obtain ⟨hhit, hmiss⟩ := hst (Vc 2 (fun y => md (D y))) (vc_le 2) hwg0
   by_cases e : Vc 2 (fun y => md (D y)) = vs
   ·obtain ⟨a', hgo, m₂, hk'⟩ := hhit e
    exact .inr (book hgo (Go.Conc.aside_setCell w (stA p.Wg) _) (hwg0.setSt _) (okrw _) (.w3 hk') (.reg (tag := .w3) trivial ho (by omega)) (by simp) (.inl (by simp only [phi]; omega)))
   ·obtain ⟨a', hgo, m₂, hk'⟩ := hmiss e
    exact .inr (book hgo asA hwg okrd (.w1 (by omega) hk') (.opn (tag := .w1 x) trivial ho (fun n' e => by cases e; omega) (by simp)) (by simp) (.inl (by simp only [phi]; omega)))
  ·exact .inr (idle (m' := m') (.inl rfl) (by omega) hgo hD (.w2 h1 h2' h3 h'))
 | @w3 m b _ _ h =>
  subst ej eh
  rcases goes_split2 (refl _) h with hstop | ⟨m', a', w', es, e1, hgo, hD, h'⟩
  ·obtain ⟨_, ho, hblk, hup⟩ := hstop w (refl _)
   have hb : ∀ {st'}, WgAt 108 p.Wg w st' 0 → Lk.Mode 2 (fun y => md (D y)) .blk st' 0 → ∃ m₁ ops μ', runT Try.prog (crowd gs w sl) 0 = (.next m₁, ops) ∧ Lt2 μ' (M1 .w3 wd D, M2 D (3 * m + 1) p.K q) ∧ InvH p n L0 all Ld T Z B0 W μ' m₁ (t ++ ops) := fun hw hm =>
    book (hblk ⟨_, hw⟩) asA hw (by simp) (.blk hstop) hm (by simp) (.inr ⟨rfl, .inr ⟨by omega, rfl⟩⟩)
   cases hmode with
   | opn h1 _ _ _ => exact h1.elim
   | reg h1 h2 h3 => exact .inr (hb hwg (.reg trivial h2 h3))
   | last L h1 h2 h3 h4 => exact .inr (hb hwg (.last L trivial h2 h3 h4))
   | sema hq =>
    obtain ⟨a', hgo, m₂, hk'⟩ := hup hwg
    refine .inr (book hgo (Go.Conc.aside_setCell w (smA p.Wg) _) (hwg.setSm 0) ?_ (.w4 hk') (.fin (tag := .w4) trivial hq) (by simp) (.inl (by simp only [phi]; omega)))
    intro e he
    rw [(Go.Conc.aside_setCell w (smA p.Wg) _).size]
    simp only [semEvents, List.mem_toArray, List.mem_cons, List.not_mem_nil, or_false] at he
    rcases he with rfl | rfl | rfl | rfl
    ·exact okM_mute rfl
    ·exact okM_cell 1 false hWs
    ·exact okM_cell 1 true hWs
    ·exact okM_mute rfl
   | fin h1 _ => exact h1.elim
  ·exact .inr (idle (m' := m') (.inl rfl) (by omega) hgo hD (.w3 h'))
 | blk h => cases hrun
 | @w4 m b _ _ h =>
  subst ej eh
  rcases goes_split2 (refl _) h with hstop | ⟨m', a', w', es, e1, hgo, hD, h'⟩
  ·obtain ⟨hq, rfl, rfl⟩ := hmode.inv_fin trivial
   obtain ⟨a', hgo, m₂, hk'⟩ := (hstop w (refl _)).2 hwg
   exact .inr (book hgo asA hwg okrd (.ke hk') (.fin (tag := .ke) trivial hq) (by simp) (.inl (by simp only [phi]; omega)))
  ·exact .inr (idle (m' := m') (.inl rfl) (by omega) hgo hD (.w4 h'))
 | @ke m b _ _ h =>
  subst ej eh
  rcases goes_split2 (refl _) h with hstop | ⟨m', a', w', es, e1, hgo, hD, h'⟩
  ·obtain ⟨hq, rfl, rfl⟩ := hmode.inv_fin trivial
   obtain ⟨_, a', hgo, m₂, hk'⟩ := hstop w (refl _)
   exact .inr (book hgo asA hwg (one _ _ (okM_mute rfl)) (.acq hk') (.fin (tag := .acq) trivial hq) (by simp) (.inl (by simp only [phi]; omega)))
  ·exact .inr (idle (m' := m') (.inl rfl) (by omega) hgo hD (.ke h'))
 | @acq m b _ _ h =>
  subst ej eh
  rcases goes_split2 (refl _) h with hstop | ⟨m', a', w', es, e1, hgo, hD, h'⟩
  ·obtain ⟨hq, rfl, rfl⟩ := hmode.inv_fin trivial
   obtain ⟨_, a', hgo, m₂, hk'⟩ := hstop w (refl _)
   refine .inr (book hgo asA hwg (one _ _ ⟨fun y hy => by simp [Go.ConcR.mk, MemAct.ofEvent, MemAct.touch?] at hy, ⟨by simp [Go.ConcR.mk, MemAct.ofEvent], by simp [Go.ConcR.mk, MemAct.ofEvent]⟩, hWs⟩) (.ld hk') (.fin (tag := .ld) trivial hq) (fun _ => ?_) (.inl (by simp only [phi]; omega)))
   have e1 : MemOp.ofEvents 0 a.frame.fn a.frame.place #[Go.ConcR.mk (.acquire (stA p.Wg))] = #[{ g := 0, fn := a.frame.fn, pos := a.frame.place, act := .mark (.acquire (stA p.Wg)) }] := one_op _ _ _ _ (by simp)
   have hy : (t ++ #[({ g := 0, fn := a.frame.fn, pos := a.frame.place, act := .mark (.acquire (stA p.Wg)) } : MemOp)])[t.size]? = some { g := 0, fn := a.frame.fn, pos := a.frame.place, act := .mark (.acquire (stA p.Wg)) } := by simp
   refine ⟨t.size, by rw [e1, act?_of hy], by rw [e1]; simp [Trace.g?], ⟨0, by rw [e1]; simp [Trace.g?], by rw [deaf_old (Nat.le_refl _)]; exact I.deaf0⟩, fun i hi => ?_⟩
   have hq1 : (D i).q.stage = 1 := hq i hi
   obtain ⟨r, hr⟩ := I.rel i hi (by rw [hq1]; omega)
   exact ⟨r, hr.app (hr.1.appOther ofEvents_g (by omega)) (fun op hop hog => absurd ((ofEvents_g op hop).symm.trans hog) (by omega)), lt_of_act? hr.1.act⟩
  ·exact .inr (idle (m' := m') (.inl rfl) (by omega) hgo hD (.acq h'))
 | @ld m b _ _ h =>
  subst ej eh
  rcases goes_split2 (refl _) h with hstop | ⟨m', a', w', es, e1, hgo, hD, h'⟩
  ·exact .inl ⟨rfl, hstop w (refl _)⟩
  ·exact .inr (idle (m' := m') (.inl rfl) (by omega) hgo hD (.ld h'))
end
end Go.Proofs.Ytnikfjfcbpeieaa.Hk
end
section
namespace Go.Proofs.Ytnikfjfcbpeieaa.Hk
open Go Go.Conc Go.Proofs.Ytnikfjfcbpeieaa.Lk
open Go.ConcN (sumTo upd sumTo_upd sumTo_upd_out upd_ne upd_same sumTo_congr RelBy get_map_set get_map_set_same le_sumTo Deaf_still)
open Go.ConcR (KK wgBlock WgAt stA smA rd wr)
set_option linter.unusedVariables false
set_option linter.unusedSimpArgs false
section
variable {p : Pl} {n L0 : Nat} {all : Nat → List Int} {Ld : Goroutine → World → Prop} {T : List Int} {Z B0 : Nat} {W : World}
 {gs : Array Goroutine} {w w' : World} {sl : Option (Nat × Nat)} {j : Nat} {D : Nat → WDH} {tag : CTag} {f0 d0 : Nat} {a : Goroutine} {st sm : Int} {q : Nat → Nat} {hb : Option Nat} {wd : Wd} {m : Bool} {Ow : Nat → Nat → Prop} {c : List Int} {t : Trace}
def MetH (p : Pl) (Ld : Goroutine → World → Prop) (T : List Int) (Z B0 : Nat) (W : World) (mc : Machine) (t : Trace) : Prop :=
 ∃ (gs : Array Goroutine) (w : World) (sl : Option (Nat × Nat)) (a : Goroutine) (q : Nat → Nat), mc = crowd gs w sl ∧ gs[0]? = some a ∧ Ld a w ∧ Leavers Try.prog t gs q ∧ Past (ShB fun b => p.S b ∨ b = p.Wg) w.heap.size t ∧ AlIs p T w ∧ w.heap.size = Z ∧ KpH B0 W w ∧ ∃ wd m, MuIs p T.length w wd m
theorem IS.at (I : IS p n L0 all Ld T Z B0 W gs w j D tag f0 d0 a st sm q hb wd m Ow c t) (d : Nat) : IS p n L0 all Ld T Z B0 W gs (w.at d) j D tag f0 d0 a st sm q hb wd m Ow c t :=
 { a0 := I.a0, cs := I.cs.rely (RMH.at w d), size := I.size, old := I.old, wk := fun i hi => let ⟨g, hg, hs⟩ := I.wk i hi; ⟨g, hg, hs.rely (EnvH.at w d)⟩, deaf0 := I.deaf0, deafW := I.deafW, rel := I.rel, above := I.above, fresh := I.fresh, mid := I.mid, wg := I.wg, mode := I.mode, mu := I.mu, jj := I.jj, cl := I.cl, al := I.al, cr := I.cr, ct := I.ct, ne := I.ne, sz := I.sz, own := I.own, owl := I.owl, hbl := I.hbl, hbj := I.hbj, acq := I.acq, kp := ⟨I.kp.tape, I.kp.os, I.kp.output, I.kp.size, I.kp.block⟩, live := I.live.at, lo := I.lo, bl := I.bl, dep := I.dep }
theorem IS.someone (hL : ∀ g w, Ld g w → g.status = .running) (I : IS p n L0 all Ld T Z B0 W gs w j D tag f0 d0 a st sm q hb wd m Ow c t) : ∃ (i : Nat) (g : Goroutine), gs[i]? = some g ∧ g.status = .running := by
 rcases I.cs.status hL with ⟨hs, _⟩ | ⟨_, rfl⟩
 ·exact ⟨0, a, I.a0, hs⟩
 ·have hj2 : j = 2 := by have := I.cs; cases this; rfl
  subst hj2
  have hw : ∀ i, i < 2 → (D i).q.stage ≠ 1 → ∃ (i : Nat) (g : Goroutine), gs[i]? = some g ∧ g.status = .running := fun i hi h1 => by
   obtain ⟨g, hg, hs⟩ := I.wk i hi
   rcases hs.status with ⟨hs, _⟩ | ⟨_, hq⟩ | ⟨_, hb⟩
   ·exact ⟨_, g, hg, hs⟩
   ·rw [hq] at h1; exact absurd rfl h1
   ·have hm := I.bl i hi hb
    obtain ⟨⟨sv, e⟩, _⟩ := hb
    have hst : (D i).q.st = .Q := by rw [e]; rfl
    have hbz : ∀ y, y < 2 → y ≠ i → busy (D y).q.st = true := fun y hy hne => by
     have hjj := I.jj
     rcases (show (i = 0 ∧ y = 1) ∨ (i = 1 ∧ y = 0) by omega) with ⟨rfl, rfl⟩ | ⟨rfl, rfl⟩
     ·rw [hst, hm] at hjj; exact J_busy hjj
     ·rw [hst, hm, J.symm] at hjj; exact J_busy hjj
    obtain ⟨y, hy, hne⟩ : ∃ y, y < 2 ∧ y ≠ i := by
     rcases (show i = 0 ∨ i = 1 by omega) with rfl | rfl
     ·exact ⟨1, by omega, by omega⟩
     ·exact ⟨0, by omega, by omega⟩
    have hby := hbz y hy hne
    obtain ⟨g', hg', hs'⟩ := I.wk y hy
    rcases hs'.status with ⟨hs', _⟩ | ⟨_, hq⟩ | ⟨_, hb'⟩
    ·exact ⟨_, g', hg', hs'⟩
    ·rw [hq] at hby; cases hby
    ·obtain ⟨⟨sv', e'⟩, _⟩ := hb'
     rw [e'] at hby; cases hby
  cases I.mode with
  | opn h1 _ _ _ => exact h1.elim
  | reg _ h2 h3 =>
   by_cases hq : AllQuit 2 (fun y => md (D y))
   ·exfalso
    have := vc_quit 2 hq
    omega
   ·obtain ⟨i, hi, h1⟩ : ∃ i, i < 2 ∧ (md (D i)).stage ≠ 1 := Classical.byContradiction fun hn => hq fun i hi => Classical.byContradiction fun h1 => hn ⟨i, hi, h1⟩
    exact hw i hi h1
  | last L _ h2 h3 _ => exact hw L h2 (by have h3 : (D L).q.stage = 4 ∨ (D L).q.stage = 3 ∨ (D L).q.stage = 2 := h3; omega)
  | fin h1 _ => exact h1.elim
theorem crewH_step (G : GeoH p n L0 B0) (hL : ∀ g w, Ld g w → g.status = .running) (hLs : ∀ g w d, Ld g w → Ld g (w.at d)) (μ : Nat × Nat) (mc : Machine) (t : Trace) (h : InvH p n L0 all Ld T Z B0 W μ mc t) :
  (∃ N m' t', runNT Try.prog N mc t = (.next m', t') ∧ MetH p Ld T Z B0 W m' t') ∨ ∃ m' ops μ', stepT Try.prog mc = (.next m', ops) ∧ Lt2 μ' μ ∧ InvH p n L0 all Ld T Z B0 W μ' m' (t ++ ops) := by
 obtain ⟨gs, w, sl, j, D, tag, f0, d0, a, st, sm, q, hb, wd, m, Ow, c, rfl, I, rfl⟩ := h
 have hK := G.ok.k0
 have hsz := I.size
 have haw : ∀ g ∈ gs, awake g := by
  intro g hg tm
  obtain ⟨i, hi⟩ := Array.mem_iff_getElem?.1 hg
  rcases Nat.eq_zero_or_pos i with rfl | hpos
  ·rw [I.a0] at hi; cases hi
   rcases I.cs.status hL with ⟨hs, _⟩ | ⟨hs, _⟩ <;> rw [hs] <;> simp
  ·rcases Nat.lt_or_ge i p.K with hlt | hge
   ·rcases (I.old i g hpos hlt hi).status with h | h <;> rw [h] <;> simp
   ·have hlt : i < p.K + j := by have := (Array.getElem?_eq_some_iff.1 hi).1; omega
    obtain ⟨g', hg', hs⟩ := I.wk (i - p.K) (by omega)
    rw [show p.K + (i - p.K) = i by omega, hi] at hg'; cases hg'
    rcases hs.status with ⟨h, _⟩ | ⟨h, _⟩ | ⟨h, _⟩ <;> rw [h] <;> simp
 have some1 := I.someone hL
 by_cases hld : tag = .ld ∧ Ld a w
 ·obtain ⟨rfl, hl⟩ := hld
  obtain ⟨hq, _, _⟩ := I.mode.inv_fin trivial
  obtain ⟨rfl, rfl⟩ : j = 2 ∧ d0 = 0 := by have := I.cs; cases this; exact ⟨rfl, rfl⟩
  have hws : ∀ i, i < 2 → ∃ g f, gs[p.K + i]? = some g ∧ QuitsD Try.prog f (D i).deaf g ∧ (D i).rest = [] ∧ (D i).q = .fin 1 := fun i hi => by
   obtain ⟨g, hg, hs⟩ := I.wk i hi
   have h1 : (D i).q.stage = 1 := hq i hi
   generalize D i = di at hs h1 ⊢
   cases hs with
   | quit h => exact ⟨g, _, hg, h, rfl, rfl⟩
   | _ => simp [Wp.stage] at h1
  obtain ⟨g0, k0, hg0, hq0, hr0, he0⟩ := hws 0 (by omega)
  obtain ⟨g1, k1, hg1, hq1, hr1, he1⟩ := hws 1 (by omega)
  have htok : tokD D = none := tok_none fun y hy => by
   rcases (show y = 0 ∨ y = 1 by omega) with rfl | rfl
   ·rw [he0]; rfl
   ·rw [he1]; rfl
  have hcT : c = T := by have := I.ct; rw [hr0, hr1] at this; exact this
  refine .inl ⟨0, _, t, rfl, gs, w, sl, a, fun x => if x < p.K then q x else if x = p.K then k0 else k1, rfl, I.a0, hl, ⟨fun x g hp hg => ?_, fun x hp => I.above x (by omega)⟩, I.mid.end_ (I.acq rfl) I.deaf0 hK, by rw [← hcT]; exact I.al htok, ?_, I.kp, wd, m, by rw [← hcT, I.cl]; exact I.mu⟩
  ·show QuitsD Try.prog (if x < p.K then q x else if x = p.K then k0 else k1) (Deaf t x) g
   split
   ·exact I.old x g hp ‹_› hg
   ·have hlt : x < p.K + 2 := by have := (Array.getElem?_eq_some_iff.1 hg).1; omega
    rcases (show x = p.K + 0 ∨ x = p.K + 1 by omega) with rfl | rfl
    ·rw [if_pos (by omega), I.deafW 0 (by omega)]
     rw [hg0] at hg; cases hg
     exact hq0
    ·rw [if_neg (by omega), I.deafW 1 (by omega)]
     rw [hg1] at hg; cases hg
     exact hq1
  ·have := I.sz
   have e0 : alft (D 0) = 0 := by unfold alft; rw [he0]
   have e1 : alft (D 1) = 0 := by unfold alft; rw [he1]
   rw [e0, e1, if_neg (I.hbj.2 rfl)] at this
   omega
 obtain ⟨i, g, d, sl', hg, hrun, hstep⟩ := crowd_pick (P := Try.prog) (w := w) (sl := sl) haw some1
 rw [hstep]
 have I' := I.at d
 rcases Nat.eq_zero_or_pos i with rfl | hpos
 ·rw [I.a0] at hg; cases hg
  rcases I'.stepCaller (sl := sl') G hL hrun with ⟨h1, h2⟩ | ⟨m₁, ops, μ', h1, h2, h3⟩
  ·exact absurd ⟨h1, hLs a (w.at d) w.drawn h2⟩ hld
  ·exact .inr ⟨m₁, ops, μ', h1, h2, h3⟩
 ·rcases Nat.lt_or_ge i p.K with hlt | hge
  ·obtain ⟨m₁, ops, μ', h1, h2, h3⟩ := I'.leaver (sl := sl') G hL hpos hlt hg hrun
   exact .inr ⟨m₁, ops, μ', h1, h2, h3⟩
  ·have hlt : i < p.K + j := by have := (Array.getElem?_eq_some_iff.1 hg).1; omega
   obtain ⟨i', rfl⟩ : ∃ i', i = p.K + i' := ⟨i - p.K, by omega⟩
   obtain ⟨m₁, ops, μ', h1, h2, h3⟩ := I'.stepWorker (sl := sl') G hL (by omega) hg hrun
   exact .inr ⟨m₁, ops, μ', h1, h2, h3⟩
theorem crewH_runs (G : GeoH p n L0 B0) (hL : ∀ g w, Ld g w → g.status = .running) (hLs : ∀ g w d, Ld g w → Ld g (w.at d)) : ∀ (μ : Nat × Nat) (mc : Machine) (t : Trace), InvH p n L0 all Ld T Z B0 W μ mc t →
  ∃ N m' t', runNT Try.prog N mc t = (.next m', t') ∧ MetH p Ld T Z B0 W m' t' := by
 intro μ
 induction μ using (Prod.lex Nat.lt_wfRel Nat.lt_wfRel).wf.induction with
 | _ μ ih =>
  intro mc t h
  rcases crewH_step G hL hLs μ mc t h with h | ⟨m', ops, μ', h1, h2, h3⟩
  ·exact h
  ·obtain ⟨N, m₂, t₂, h4, h5⟩ := ih μ' h2 m' (t ++ ops) h3
   exact ⟨N + 1, m₂, t₂, by rw [runNT_succ_next h1]; exact h4, h5⟩
end
end Go.Proofs.Ytnikfjfcbpeieaa.Hk
end
