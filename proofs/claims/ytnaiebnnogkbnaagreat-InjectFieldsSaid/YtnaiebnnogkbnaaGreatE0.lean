/- Contracts of functions of the program, and the laws of memory that they are proved with: part 0. -/
import Derived.Calls
import Derived.Tactics
import Derived.Deep.Quiet
import Derived.IntWalk
import Derived.OrdersHeld
import Derived.Deep.RegionHeld3
import Derived.Test.YtnaiebnnogkbnaaGreatProg
import Derived.KernelRfl
set_option linter.unusedVariables false
set_option linter.unusedSimpArgs false
section
namespace Hd
open Go

abbrev Frag := Nat → Option Obj
abbrev HP := Frag → Prop

/-- h is the disjoint union of h1 and h2. -/
def Join (h1 h2 h : Frag) : Prop := ∀ b, (h1 b = none ∧ h b = h2 b) ∨ (h2 b = none ∧ h b = h1 b)

def Sat : List HP → Frag → Prop
  | [], _ => True
  | A :: L, h => ∃ h1 h2, Join h1 h2 h ∧ A h1 ∧ Sat L h2

def Pt (b : Nat) (o : Obj) : HP := fun h => h b = some o ∧ ∀ b', b' ≠ b → h b' = none

/-- a pure fact -/
def Pu (p : Prop) : HP := fun h => p ∧ ∀ b, h b = none
/-- a list as one -/
def All (L : List HP) : HP := fun h => Sat L h
/-- exists -/
def Ex {α : Type} (A : α → HP) : HP := fun h => ∃ x, A x h

theorem Join.comm {h1 h2 h : Frag} (j : Join h1 h2 h) : Join h2 h1 h := fun b => (j b).symm

theorem Join.assoc {h1 h2 h12 h3 h : Frag} (j : Join h1 h2 h12) (k : Join h12 h3 h) : ∃ h23, Join h2 h3 h23 ∧ Join h1 h23 h := by
  refine ⟨fun b => match h2 b with | some o => some o | none => h3 b, fun b => ?_, fun b => ?_⟩
  · have jb := j b; have kb := k b
    cases e : h2 b with
    | none => left; simp [e]
    | some o =>
      right; simp only [e, and_true]
      rcases kb with ⟨kb, -⟩ | ⟨kb, -⟩
      · rcases jb with ⟨-, jb⟩ | ⟨jb, -⟩
        · rw [kb, e] at jb; cases jb
        · rw [e] at jb; cases jb
      · exact kb
  · have jb := j b; have kb := k b
    rcases jb with ⟨j1, j2⟩ | ⟨j1, j2⟩
    · left; refine ⟨j1, ?_⟩
      rcases kb with ⟨k1, k2⟩ | ⟨k1, k2⟩
      · rw [k2]; rw [k1] at j2; simp [← j2]
      · rw [k2, j2]; cases e : h2 b <;> simp [e, k1]
    · rcases kb with ⟨k1, k2⟩ | ⟨k1, k2⟩
      · left; rw [k1] at j2; refine ⟨j2.symm, ?_⟩; simp [j1, k2]
      · right; simp [j1, k1, k2, j2]

theorem Join.assoc' {h1 h2 h3 h23 h : Frag} (j : Join h2 h3 h23) (k : Join h1 h23 h) : ∃ h12, Join h1 h2 h12 ∧ Join h12 h3 h := by
  obtain ⟨x, hx, hy⟩ := j.comm.assoc k.comm
  exact ⟨x, hx.comm, hy.comm⟩

/-- more memory than is asked for does no harm -/
def Sub (h h' : Frag) : Prop := ∀ b o, h b = some o → h' b = some o

theorem Join.sub_left {h1 h2 h : Frag} (j : Join h1 h2 h) : Sub h1 h := fun b o e => by
  rcases j b with ⟨x, -⟩ | ⟨-, x⟩
  · rw [x] at e; cases e
  · rw [x, e]
theorem Join.sub_right {h1 h2 h : Frag} (j : Join h1 h2 h) : Sub h2 h := j.comm.sub_left

theorem Sat.mono {L : List HP} : ∀ {h h' : Frag}, Sub h h' → Sat L h → Sat L h' := by
  induction L with
  | nil => intros; trivial
  | cons A L ih =>
    intro h h' s ⟨h1, h2, j, ha, hl⟩
    refine ⟨h1, fun b => match h1 b with | some _ => none | none => h' b, fun b => ?_, ha, ih (fun b o e => ?_) hl⟩
    · cases e : h1 b with
      | none => left; simp only [true_and, e]
      | some o => right; simp only [e]; exact ⟨trivial, s b o (j.sub_left b o e)⟩
    · have := s b o (j.sub_right b o e)
      rcases j b with ⟨x, -⟩ | ⟨x, -⟩
      · simp [x, this]
      · rw [x] at e; cases e

theorem sat_swap {A B : HP} {L : List HP} {h : Frag} : Sat (A :: B :: L) h → Sat (B :: A :: L) h := by
  rintro ⟨h1, h2, j, ha, h3, h4, k, hb, hl⟩
  obtain ⟨h13, j1, j2⟩ := k.assoc' j
  obtain ⟨h14, k1, k2⟩ := j1.comm.assoc j2
  exact ⟨h3, h14, k2, hb, h1, h4, k1, ha, hl⟩

theorem sat_tail {A : HP} {L M : List HP} (hm : ∀ h, Sat L h → Sat M h) {h : Frag} : Sat (A :: L) h → Sat (A :: M) h := by
  rintro ⟨h1, h2, j, ha, hl⟩; exact ⟨h1, h2, j, ha, hm _ hl⟩

theorem sat_head {A B : HP} {L : List HP} (hm : ∀ h, A h → B h) {h : Frag} : Sat (A :: L) h → Sat (B :: L) h := by
  rintro ⟨h1, h2, j, ha, hl⟩; exact ⟨h1, h2, j, hm _ ha, hl⟩

theorem sat_drop {A : HP} {L : List HP} {h : Frag} : Sat (A :: L) h → Sat L h := by
  rintro ⟨h1, h2, j, -, hl⟩; exact Sat.mono j.sub_right hl

/-- L is A and the rest. -/
class Has (L : List HP) (A : HP) (R : outParam (List HP)) : Prop where
  out : ∀ h, Sat L h → Sat (A :: R) h

instance (priority := high) Has.here (A : HP) (L : List HP) : Has (A :: L) A L := ⟨fun _ h => h⟩
instance (priority := low) Has.there (A B : HP) (L R : List HP) [t : Has L A R] : Has (B :: L) A (B :: R) :=
  ⟨fun _ h => sat_swap (sat_tail t.out h)⟩

/-- the block b -/
class HasPt (L : List HP) (b : Nat) (o : outParam Obj) (R : outParam (List HP)) : Prop where
  out : ∀ h, Sat L h → Sat (Pt b o :: R) h
instance (priority := high) HasPt.here (b : Nat) (o : Obj) (L : List HP) : HasPt (Pt b o :: L) b o L := ⟨fun _ h => h⟩
instance (priority := low) HasPt.there (b : Nat) (o : Obj) (B : HP) (L R : List HP) [t : HasPt L b o R] : HasPt (B :: L) b o (B :: R) :=
  ⟨fun _ h => sat_swap (sat_tail t.out h)⟩

class Takes (L : List HP) (P : List HP) (R : outParam (List HP)) : Prop where
  out : ∀ h, Sat L h → Sat (P ++ R) h
instance Takes.nil (L : List HP) : Takes L [] L := ⟨fun _ h => h⟩
instance Takes.cons (L : List HP) (A : HP) (P R R' : List HP) [a : Has L A R] [t : Takes R P R'] : Takes L (A :: P) R' :=
  ⟨fun _ h => sat_tail t.out (a.out _ h)⟩

theorem sat_app {L M : List HP} {h : Frag} : Sat (L ++ M) h ↔ Sat (L ++ [All M]) h := by
  induction L generalizing h with
  | nil =>
    constructor
    · intro hs
      exact ⟨h, fun _ => none, fun b => .inr ⟨rfl, rfl⟩, hs, trivial⟩
    · rintro ⟨h1, h2, j, ha, -⟩
      exact Sat.mono j.sub_left ha
  | cons A L ih =>
    constructor
    · exact sat_tail (fun _ => ih.1)
    · exact sat_tail (fun _ => ih.2)

theorem sat_all {L M : List HP} {h : Frag} : Sat (All L :: M) h ↔ Sat (L ++ M) h := by
  induction L generalizing h with
  | nil =>
    constructor
    · exact sat_drop
    · intro hs; exact ⟨fun _ => none, h, fun b => .inl ⟨rfl, rfl⟩, trivial, hs⟩
  | cons A L ih =>
    constructor
    · rintro ⟨h1, h2, j, ⟨h3, h4, k, ha, hl⟩, hm⟩
      obtain ⟨h5, j1, j2⟩ := k.assoc j
      exact ⟨h3, h5, j2, ha, ih.1 ⟨h4, h2, j1, hl, hm⟩⟩
    · rintro ⟨h3, h5, j2, ha, hs⟩
      obtain ⟨h4, h2, j1, hl, hm⟩ := ih.2 hs
      obtain ⟨h1, k1, k2⟩ := j1.assoc' j2
      exact ⟨h1, h2, k2, ⟨h3, h4, k1, ha, hl⟩, hm⟩

/-! ## worlds -/
def frag (w : World) : Frag := fun b => w.heap[b]?

structure Gl where
  os : Os
  tape : Nat → Question → Nat
  output : Array (Nat × ByteArray)
  dr : Nat

structure Fit (g : Gl) (L : List HP) (w : World) : Prop where
  os : w.os = g.os
  tape : w.tape = g.tape
  output : w.output = g.output
  dr : g.dr ≤ w.drawn
  sat : Sat L (frag w)

theorem Fit.mono {g : Gl} {L M : List HP} {w : World} (f : Fit g L w) (h : ∀ h, Sat L h → Sat M h) : Fit g M w := ⟨f.os, f.tape, f.output, f.dr, h _ f.sat⟩

theorem sat_pt {b : Nat} {o : Obj} {L : List HP} {h : Frag} (s : Sat (Pt b o :: L) h) : h b = some o := by
  obtain ⟨h1, h2, j, ⟨ha, -⟩, -⟩ := s
  exact j.sub_left b o ha

theorem sat_upd {b : Nat} {o o' : Obj} {L : List HP} {h h' : Frag} (s : Sat (Pt b o :: L) h) (e : h' b = some o') (k : ∀ c, c ≠ b → h' c = h c) : Sat (Pt b o' :: L) h' := by
  obtain ⟨h1, h2, j, ⟨ha, hn⟩, hl⟩ := s
  have h2b : h2 b = none := by
    rcases j b with ⟨x, -⟩ | ⟨x, -⟩
    · rw [x] at ha; cases ha
    · exact x
  refine ⟨fun c => if c = b then some o' else none, h2, fun c => ?_, ⟨by simp, fun c hc => by simp [hc]⟩, hl⟩
  by_cases hc : c = b
  · subst hc; right; simp [h2b, e]
  · left; simp only [hc, if_false, true_and]
    rw [k c hc]
    rcases j c with ⟨-, x⟩ | ⟨x, y⟩
    · exact x
    · rw [y, x, hn c hc]

theorem sat_new {b : Nat} {o : Obj} {L : List HP} {h h' : Frag} (s : Sat L h) (f : h b = none) (e : h' b = some o) (k : ∀ c, c ≠ b → h' c = h c) : Sat (Pt b o :: L) h' := by
  refine ⟨fun c => if c = b then some o else none, h, fun c => ?_, ⟨by simp, fun c hc => by simp [hc]⟩, s⟩
  by_cases hc : c = b
  · subst hc; right; simp [f, e]
  · left; simp [hc, k c hc]

theorem frag_new (w : World) (o : Obj) : frag { w with heap := w.heap.push o } w.heap.size = some o := by simp [frag]
theorem frag_new_ne (w : World) (o : Obj) (c : Nat) (h : c ≠ w.heap.size) : frag { w with heap := w.heap.push o } c = frag w c := by
  simp only [frag, Array.getElem?_push]; rw [if_neg h]

theorem Fit.push {g : Gl} {L : List HP} {w : World} (f : Fit g L w) (o : Obj) : Fit g (Pt w.heap.size o :: L) { w with heap := w.heap.push o } :=
  ⟨f.os, f.tape, f.output, f.dr, sat_new f.sat (by simp [frag]) (frag_new w o) (fun c hc => frag_new_ne w o c hc)⟩

theorem Fit.cell {g : Gl} {L : List HP} {w : World} {b off : Nat} {cs : Array Value} {T : TypeId} {fr : Nat × Nat} {v : Value} (f : Fit g (Pt b (.cells cs T fr) :: L) w) (e : cs[off]? = some v) : w.cell? ⟨b, off, none⟩ = some v := by
  have := sat_pt f.sat
  simp only [frag] at this
  simp [World.cell?, this, e]

theorem Fit.setCell {g : Gl} {L : List HP} {w : World} {b off : Nat} {cs : Array Value} {T : TypeId} {fr : Nat × Nat} (f : Fit g (Pt b (.cells cs T fr) :: L) w) (v : Value) : Fit g (Pt b (.cells (cs.setIfInBounds off v) T fr) :: L) (w.setCell ⟨b, off, none⟩ v) := by
  refine ⟨f.os, f.tape, f.output, f.dr, sat_upd f.sat ?_ ?_⟩
  · have := sat_pt f.sat
    simp only [frag] at this
    simp [frag, World.setCell, Array.getElem?_modify, this]
  · intro c hc
    simp only [frag, World.setCell, Array.getElem?_modify]
    rw [if_neg (fun e => hc e.symm)]

theorem Fit.setObj {g : Gl} {L : List HP} {w : World} {b : Nat} {o : Obj} (f : Fit g (Pt b o :: L) w) (o' : Obj) : Fit g (Pt b o' :: L) { w with heap := w.heap.setIfInBounds b o' } := by
  refine ⟨f.os, f.tape, f.output, f.dr, sat_upd f.sat ?_ ?_⟩
  · have := sat_pt f.sat
    simp only [frag] at this
    have hb : b < w.heap.size := by
      rcases Nat.lt_or_ge b w.heap.size with h | h
      · exact h
      · simp [Array.getElem?_eq_none h] at this
    simp [frag, hb]
  · intro c hc
    simp only [frag, Array.getElem?_setIfInBounds]
    rw [if_neg (fun e => hc e.symm)]

theorem pt_ne {b c : Nat} {o p : Obj} {L : List HP} {h : Frag} (s : Sat (Pt b o :: Pt c p :: L) h) : b ≠ c := by
  rintro rfl
  obtain ⟨h1, h2, j, ⟨ha, -⟩, h3, h4, k, ⟨hb, -⟩, -⟩ := s
  rcases j b with ⟨x, -⟩ | ⟨x, -⟩
  · rw [x] at ha; cases ha
  · rw [k.sub_left b _ hb] at x; cases x

end Hd
end
section
namespace Hd
open Go

abbrev Env := List (Nat × Value)

def Env.get : Env → Nat → Option Value
  | [], _ => none
  | (k, v) :: r, t => bif Nat.beq k t then some v else Env.get r t

structure Fits (n : Nat) (env : Env) (a : Act) : Prop where
  size : a.tmps.size = n
  defers : a.defers = []
  get : ∀ t v, env.get t = some v → a.tmps[t]? = some v

def Env.ev (env : Env) : Operand → Option Value
  | .tmp t => env.get t
  | .const v => some v
  | .global g => some (.pointer (some ⟨g, 0, none⟩))
  | .func f => some (.func (.func f) #[] #[])

theorem Fits.ev {n : Nat} {env : Env} {a : Act} (f : Fits n env a) {x : Operand} {v : Value} (h : env.ev x = some v) : a.eval x = v := by
  cases x with
  | tmp t => have := f.get t v h; simp [Act.eval, Array.getD_eq_getD_getElem?, this]
  | const u => exact Option.some.inj h
  | global g => exact Option.some.inj h
  | func g => exact Option.some.inj h

theorem beq_ff {a b : Nat} (h : a ≠ b) : Nat.beq a b = false := by
  cases e : Nat.beq a b with
  | false => rfl
  | true => exact absurd (Nat.eq_of_beq_eq_true e) h

theorem Fits.put {n : Nat} {env : Env} {a : Act} (f : Fits n env a) {d : Nat} (hd : Nat.blt d n = true) (v : Value) : Fits n ((d, v) :: env) (a.put (some d) v) := by
  have hd' : d < n := by simpa [Nat.blt_eq] using hd
  refine ⟨by simp [Act.put, f.size], by simp [Act.put, f.defers], fun t u h => ?_⟩
  simp only [Env.get] at h
  simp only [Act.put]
  by_cases e : d = t
  · subst e
    simp at h; subst h
    simp [f.size, hd']
  · have : Nat.beq d t = false := beq_ff e
    rw [this] at h
    rw [Array.getElem?_setIfInBounds_ne e]
    exact f.get t u h

theorem Fits.put_none {n : Nat} {env : Env} {a : Act} (f : Fits n env a) (v : Value) : Fits n env (a.put none v) := f

/-- every slot of E has in env what E says -/
def SubE (env : Env) : Env → Prop
  | [] => True
  | (t, v) :: E => env.get t = some v ∧ SubE env E

theorem SubE.get {env : Env} : ∀ {E : Env}, SubE env E → ∀ t v, E.get t = some v → env.get t = some v
  | [], _, t, v, h => by simp [Env.get] at h
  | (k, u) :: E, h, t, v, e => by
    simp only [Env.get] at e
    by_cases hk : k = t
    · subst hk; simp at e; subst e; exact h.1
    · have : Nat.beq k t = false := beq_ff hk
      rw [this] at e; exact h.2.get t v e

theorem Fits.sub {n : Nat} {env E : Env} {a : Act} (f : Fits n env a) (h : SubE env E) : Fits n E a := ⟨f.size, f.defers, fun t v e => f.get t v (h.get t v e)⟩

section
variable (P : Program) (g : Gl) (n : Nat)

def WP (c : Code) (Q : Exit → Act → World → Prop) (env : Env) (L : List HP) : Prop :=
  ∀ a w, Fits n env a → Fit g L w → c.wp P Q a w
def WL (ops : Array Oper) (l : List Oper) (Q : Exit → Act → World → Prop) (env : Env) (L : List HP) : Prop :=
  ∀ a w, Fits n env a → Fit g L w → wpList P ops Q l a w
def AT (e : Exit) (Q : Exit → Act → World → Prop) (env : Env) (L : List HP) : Prop :=
  ∀ a w, Fits n env a → Fit g L w → Q e a w
end

section
variable {P : Program} {g : Gl} {n : Nat} {env : Env} {L : List HP} {Q : Exit → Act → World → Prop}

theorem wp_weak {c : Code} {E : Env} {M : List HP} (he : SubE env E) (hl : ∀ h, Sat L h → Sat M h) (k : WP P g n c Q E M) : WP P g n c Q env L :=
  fun a w fa fw => k a w (fa.sub he) (fw.mono hl)

theorem r_seq {x y : Code} (k : WP P g n x (Exit.then (y.wp P Q) Q) env L) : WP P g n (.seq x y) Q env L := fun a w fa fw => wp_seq (k a w fa fw)
theorem r_skip (k : AT g n .normal Q env L) : WP P g n .skip Q env L := fun a w fa fw => wp_skip (k a w fa fw)
theorem r_exit {id : Nat} (k : AT g n (.exit id) Q env L) : WP P g n (.exit id) Q env L := fun a w fa fw => wp_exit (k a w fa fw)
theorem r_ret (k : AT g n .ret Q env L) : WP P g n .ret Q env L := fun a w fa fw => wp_ret (k a w fa fw)
theorem r_block {id : Nat} {c : Code} (k : WP P g n c (Exit.inBlock id Q) env L) : WP P g n (.block id c) Q env L := fun a w fa fw => wp_block (k a w fa fw)
theorem r_region {id : Nat} {l : List Oper} (k : WL P g n l.toArray l Q env L) : WP P g n (.region id l.toArray false) Q env L :=
  fun a w fa fw => wp_region_lit (k a w fa fw)
theorem r_cond {c : Operand} {x y : Code} {b : Bool} (hc : env.ev c = some (.bool b)) (kt : b = true → WP P g n x Q env L) (kf : b = false → WP P g n y Q env L) : WP P g n (.cond c x y) Q env L :=
  fun a w fa fw => wp_cond_split (fa.ev hc) (fun h => kt h a w fa fw) (fun h => kf h a w fa fw)
theorem r_cond_dec {c : Operand} {x y : Code} {p : Prop} [Decidable p] (hc : env.ev c = some (.bool (decide p))) (kt : p → WP P g n x Q env L) (kf : ¬ p → WP P g n y Q env L) : WP P g n (.cond c x y) Q env L :=
  r_cond hc (fun h => kt (of_decide_eq_true h)) (fun h => kf (of_decide_eq_false h))
theorem r_cond_t {c : Operand} {x y : Code} {b : Bool} (hc : env.ev c = some (.bool b)) (hb : b = true) (kt : WP P g n x Q env L) : WP P g n (.cond c x y) Q env L :=
  r_cond hc (fun _ => kt) (fun h => by rw [hb] at h; cases h)
theorem r_cond_f {c : Operand} {x y : Code} {b : Bool} (hc : env.ev c = some (.bool b)) (hb : b = false) (kf : WP P g n y Q env L) : WP P g n (.cond c x y) Q env L :=
  r_cond hc (fun h => by rw [hb] at h; cases h) (fun _ => kf)
theorem r_dec_t {c : Operand} {x y : Code} {p : Prop} [Decidable p] (hc : env.ev c = some (.bool (decide p))) (hp : p) (kt : WP P g n x Q env L) : WP P g n (.cond c x y) Q env L :=
  r_cond_t hc (decide_eq_true hp) kt
theorem r_dec_f {c : Operand} {x y : Code} {p : Prop} [Decidable p] (hc : env.ev c = some (.bool (decide p))) (hp : ¬ p) (kf : WP P g n y Q env L) : WP P g n (.cond c x y) Q env L :=
  r_cond_f hc (decide_eq_false hp) kf

/-! exits -/
theorem at_then {K : Act → World → Prop} (k : ∀ a w, Fits n env a → Fit g L w → K a w) : AT g n .normal (Exit.then K Q) env L := fun a w fa fw => k a w fa fw
theorem at_then_wp {y : Code} {Q' : Exit → Act → World → Prop} (k : WP P g n y Q' env L) : AT g n .normal (Exit.then (y.wp P Q') Q) env L := fun a w fa fw => k a w fa fw
theorem at_then_exit {K : Act → World → Prop} {i : Nat} (k : AT g n (.exit i) Q env L) : AT g n (.exit i) (Exit.then K Q) env L := k
theorem at_then_ret {K : Act → World → Prop} (k : AT g n .ret Q env L) : AT g n .ret (Exit.then K Q) env L := k
theorem at_block_normal {i : Nat} (k : AT g n .normal Q env L) : AT g n .normal (Exit.inBlock i Q) env L := k
theorem at_block_ret {i : Nat} (k : AT g n .ret Q env L) : AT g n .ret (Exit.inBlock i Q) env L := k
theorem at_block_here {i : Nat} (k : AT g n .normal Q env L) : AT g n (.exit i) (Exit.inBlock i Q) env L := fun a w fa fw => by
  show (if i = i then _ else _); rw [if_pos rfl]; exact k a w fa fw
theorem at_block_there {i j : Nat} (h : Nat.beq j i = false) (k : AT g n (.exit j) Q env L) : AT g n (.exit j) (Exit.inBlock i Q) env L := fun a w fa fw => by
  have : j ≠ i := Nat.ne_of_beq_eq_false h
  show (if j = i then _ else _); rw [if_neg this]; exact k a w fa fw

theorem l_nil {ops : Array Oper} (k : AT g n .normal Q env L) : WL P g n ops [] Q env L := fun a w fa fw => k a w fa fw

/-- the loop: S is what changes from round to round, K what stays -/
def Again (g : Gl) (n : Nat) {S : Type} (U : S → Env) (K : Env) (H : S → List HP) (I : S → Prop) (μ : S → Nat) (m : Nat) (a : Act) (w : World) : Prop :=
  ∃ s, I s ∧ μ s < m ∧ Fits n (U s ++ K) a ∧ Fit g (H s) w

theorem SubE.app {env : Env} : ∀ {E F : Env}, SubE env E → SubE env F → SubE env (E ++ F)
  | [], _, _, h => h
  | _ :: _, _, ⟨h1, h2⟩, h => ⟨h1, SubE.app h2 h⟩

theorem r_loop {S : Type} (U : S → Env) (K : Env) (H : S → List HP) (I : S → Prop) (μ : S → Nat) (s₀ : S) {c : Code} (hk : SubE env K) (he : SubE env (U s₀)) (h0 : I s₀) (hl : ∀ h, Sat L h → Sat (H s₀) h)
    (round : ∀ s, I s → WP P g n c (Exit.then (Again g n U K H I μ (μ s)) Q) (U s ++ K) (H s)) : WP P g n (.loop c) Q env L := by
  intro a w fa fw b k cs
  have key : ∀ m s a w, μ s = m → I s → Fits n (U s ++ K) a → Fit g (H s) w →
      ∃ e a' w', Q e a' w' ∧ Arrives P (lone (b.at a (.code c :: .inLoop c :: k)) cs w) b k cs e a' w' := by
    intro m
    induction m using Nat.strongRecOn with
    | _ m ih =>
      intro s a w hm hI fa fw
      obtain ⟨e, a₁, w₁, hq, harr⟩ := round s hI a w fa fw b (.inLoop c :: k) cs
      cases e with
      | normal =>
        obtain ⟨s', hI', hlt, fa', fw'⟩ := hq
        obtain ⟨e₂, a₂, w₂, hq₂, harr₂⟩ := ih (μ s') (hm ▸ hlt) s' a₁ w₁ rfl hI' fa' fw'
        exact ⟨e₂, a₂, w₂, hq₂, .of_steps (Steps.trans harr (.one step_inLoop)) harr₂⟩
      | exit id => exact ⟨_, a₁, w₁, hq, .pass (x := .inLoop c) rfl (fun _ _ => .inl (by simp)) harr⟩
      | goto l => exact ⟨_, a₁, w₁, hq, .pass (x := .inLoop c) rfl (fun _ _ => .inl (by simp)) harr⟩
      | ret => exact ⟨_, a₁, w₁, hq, .pass (x := .inLoop c) rfl (fun _ _ => .inl (by simp)) harr⟩
      | panic ch => exact ⟨_, a₁, w₁, hq, .pass (x := .inLoop c) rfl (fun _ _ => .inl (by simp)) harr⟩
      | outgrown => exact ⟨_, a₁, w₁, hq, .pass (x := .inLoop c) rfl (fun _ _ => .inl (by simp)) harr⟩
  obtain ⟨e, a', w', hq, harr⟩ := key _ s₀ a w rfl h0 (fa.sub (he.app hk)) (fw.mono hl)
  exact ⟨e, a', w', hq, .of_steps (.one step_loop) harr⟩

theorem at_again {S : Type} {U : S → Env} {K : Env} {H : S → List HP} {I : S → Prop} {μ : S → Nat} {m : Nat} (s : S) (he : SubE env (U s)) (hk : SubE env K) (hI : I s) (hm : μ s < m) (hl : ∀ h, Sat L h → Sat (H s) h) :
    AT g n .normal (Exit.then (Again g n U K H I μ m) Q) env L := fun _ _ fa fw => ⟨s, hI, hm, fa.sub (he.app hk), fw.mono hl⟩

/-- two ways meet -/
def Joined (g : Gl) (n : Nat) {S : Type} (U : S → Env) (K : Env) (H : S → List HP) (I : S → Prop) (a : Act) (w : World) : Prop :=
  ∃ s, I s ∧ Fits n (U s ++ K) a ∧ Fit g (H s) w
theorem r_join {S : Type} (U : S → Env) (K : Env) (H : S → List HP) (I : S → Prop) {x z : Code} (h : WP P g n x (Exit.then (Joined g n U K H I) Q) env L) (k : ∀ s, I s → WP P g n z Q (U s ++ K) (H s)) : WP P g n (.seq x z) Q env L := by
  intro a w fa fw
  refine wp_seq (Code.wp_mono (fun e a w q => ?_) (h a w fa fw))
  cases e with
  | normal => obtain ⟨s, hI, fa, fw⟩ := q; exact k s hI a w fa fw
  | _ => exact q
theorem at_join {S : Type} {U : S → Env} {K : Env} {H : S → List HP} {I : S → Prop} (s : S) (he : SubE env (U s)) (hk : SubE env K) (hI : I s) (hl : ∀ h, Sat L h → Sat (H s) h) :
    AT g n .normal (Exit.then (Joined g n U K H I) Q) env L := fun _ _ fa fw => ⟨s, hI, fa.sub (he.app hk), fw.mono hl⟩

theorem r_cond_not {c : Operand} {x y : Code} {p : Prop} [Decidable p] (hc : env.ev c = some (.bool (!decide p))) (kt : ¬ p → WP P g n x Q env L) (kf : p → WP P g n y Q env L) : WP P g n (.cond c x y) Q env L :=
  r_cond hc (fun h => kt (by simpa using h)) (fun h => kf (by simpa using h))

/-! ## contracts -/
/-- the call enters the function -/
def Enters (P : Program) (f : FuncId) : Prop := ∀ args w, (callFunc f args).run P w = .ok (.enter f args) w

structure Spec (P : Program) (f : FuncId) (args : Array Value) (Pre : List HP) (Post : Value → List HP → Prop) : Prop where
  enters : Enters P f
  calls : ∀ g F w, Fit g (Pre ++ [F]) w → Calls P f args w (fun e w' => ∃ v M, e = .returned v ∧ Post v M ∧ Fit g (M ++ [F]) w')

/-- what the end of a body owes -/
def Ret (g : Gl) (Post : Value → List HP → Prop) (F : HP) (e : Ending) (w : World) : Prop := ∃ v M, e = .returned v ∧ Post v M ∧ Fit g (M ++ [F]) w

def argE : Nat → List Value → Env
  | _, [] => []
  | i, v :: vs => (i, v) :: argE (i + 1) vs

theorem argE_get : ∀ (vs : List Value) (i t : Nat) (v : Value), (argE i vs).get t = some v → i ≤ t ∧ vs[t - i]? = some v
  | [], _, _, _, h => by simp [argE, Env.get] at h
  | u :: vs, i, t, v, h => by
    simp only [argE, Env.get] at h
    by_cases hk : i = t
    · subst hk; simp at h; simp [h]
    · have : Nat.beq i t = false := beq_ff hk
      rw [this] at h
      obtain ⟨h1, h2⟩ := argE_get vs (i + 1) t v h
      refine ⟨by omega, ?_⟩
      rw [show t - i = (t - (i + 1)) + 1 from by omega]
      simpa using h2

theorem spec_of {f : FuncId} {fn : Func} {c : Code} {vs : List Value} {Pre : List HP} {Post : Value → List HP → Prop} (hf : P.funcs[f]? = some fn) (hb : fn.body = some c)
    (hn : fn.ntmps = n) (hs : Nat.ble vs.length n = true) (he : Enters P f)
    (k : ∀ g F, WP P g n c (bodyPost P fn (Ret g Post F)) (argE 0 vs) (Pre ++ [F])) : Spec P f vs.toArray Pre Post := by
  have hs' : vs.length ≤ n := by simpa using hs
  refine ⟨he, fun g F w fw => calls_of_wp hf hb ?_⟩
  rw [hn]
  refine k g F _ w ⟨by simp; omega, rfl, fun t v h => ?_⟩ fw
  obtain ⟨-, h⟩ := argE_get vs 0 t v h
  have h : vs[t]? = some v := by simpa using h
  have hlt : t < vs.length := by
    rcases Nat.lt_or_ge t vs.length with h' | h'
    · exact h'
    · simp [List.getElem?_eq_none h'] at h
  rw [Array.getElem?_append_left (by simpa using hlt)]
  simpa using h

theorem enters_of {f : FuncId} {fn : Func} (hf : P.funcs[f]? = some fn) (h1 : (fn.name == "runtime.NumGoroutine") = false) (h2 : fn.body.isNone = false) : Enters P f := by
  intro args w
  simp only [callFunc, Sem.run_bind, run_program, Result.andThen_ok, hf, h1, h2]
  simp

/-- what a result holds at the end -/
def rvS (tmps : Array Value) : ResultVar → Sem Value
  | .tmp t => pure (tmps.getD t undef)
  | .cell x t => do loadVar t (← asAddr (tmps.getD x undef))
def RV (P : Program) (g : Gl) (n : Nat) (env : Env) (L : List HP) (r : ResultVar) (v : Value) : Prop :=
  ∀ a w, Fits n env a → Fit g L w → (rvS a.tmps r).run P w = .ok v w
theorem rv_tmp {t : Nat} {v : Value} (hv : env.get t = some v) : RV P g n env L (.tmp t) v := fun a w fa _ => by
  have := fa.get t v hv
  simp [rvS, Array.getD_eq_getD_getElem?, this]

theorem results_eq (fn : Func) (tmps : Array Value) : results fn tmps = (do let vs ← fn.results.mapM (rvS tmps); pure (if h : vs.size = 1 then vs[0] else .tuple vs)) := by
  unfold results
  congr 1
theorem results_run {fn : Func} {tmps : Array Value} {w : World} (rs : List ResultVar) (hr : fn.results = rs.toArray) (vs : List Value) (h : (rs.mapM (rvS tmps)).run P w = .ok vs w) :
    (results fn tmps).run P w = .ok (if h : vs.toArray.size = 1 then vs.toArray[0] else .tuple vs.toArray) w := by
  rw [results_eq, hr]
  simp [h]

theorem at_ret0 {fn : Func} {Post : Value → List HP → Prop} {F : HP} (hr : fn.results = #[]) (hp : ∃ M, Post (.tuple #[]) M ∧ ∀ h, Sat L h → Sat (M ++ [F]) h) :
    AT g n .ret (bodyPost P fn (Ret g Post F)) env L := fun a w fa fw => by
  obtain ⟨M, hp, hl⟩ := hp
  exact ⟨fa.defers, .tuple #[], by simp [results, hr], .tuple #[], M, rfl, hp, fw.mono hl⟩
theorem at_end0 {fn : Func} {Post : Value → List HP → Prop} {F : HP} (hr : fn.results = #[]) (hp : ∃ M, Post (.tuple #[]) M ∧ ∀ h, Sat L h → Sat (M ++ [F]) h) :
    AT g n .normal (bodyPost P fn (Ret g Post F)) env L := fun a w fa fw => by
  obtain ⟨M, hp, hl⟩ := hp
  exact ⟨fa.defers, .tuple #[], by simp [results, hr], .tuple #[], M, rfl, hp, fw.mono hl⟩
theorem at_ret1 {fn : Func} {Post : Value → List HP → Prop} {F : HP} {r : ResultVar} {v : Value} (hr : fn.results = #[r]) (hv : RV P g n env L r v) (hp : ∃ M, Post v M ∧ ∀ h, Sat L h → Sat (M ++ [F]) h) : AT g n .ret (bodyPost P fn (Ret g Post F)) env L := fun a w fa fw => by
  obtain ⟨M, hp, hl⟩ := hp
  refine ⟨fa.defers, v, ?_, v, M, rfl, hp, fw.mono hl⟩
  have e1 := hv a w fa fw
  rw [results_run [r] hr [v] (by simp [e1])]
  simp
theorem at_ret2 {fn : Func} {Post : Value → List HP → Prop} {F : HP} {r1 r2 : ResultVar} {v1 v2 : Value} (hr : fn.results = #[r1, r2]) (h1 : RV P g n env L r1 v1) (h2 : RV P g n env L r2 v2) (hp : ∃ M, Post (.tuple #[v1, v2]) M ∧ ∀ h, Sat L h → Sat (M ++ [F]) h) : AT g n .ret (bodyPost P fn (Ret g Post F)) env L := fun a w fa fw => by
  obtain ⟨M, hp, hl⟩ := hp
  refine ⟨fa.defers, .tuple #[v1, v2], ?_, _, M, rfl, hp, fw.mono hl⟩
  have e1 := h1 a w fa fw
  have e2 := h2 a w fa fw
  rw [results_run [r1, r2] hr [v1, v2] (by simp [e1, e2])]
  simp
theorem at_ret3 {fn : Func} {Post : Value → List HP → Prop} {F : HP} {r1 r2 r3 : ResultVar} {v1 v2 v3 : Value} (hr : fn.results = #[r1, r2, r3]) (h1 : RV P g n env L r1 v1) (h2 : RV P g n env L r2 v2) (h3 : RV P g n env L r3 v3)
    (hp : ∃ M, Post (.tuple #[v1, v2, v3]) M ∧ ∀ h, Sat L h → Sat (M ++ [F]) h) : AT g n .ret (bodyPost P fn (Ret g Post F)) env L := fun a w fa fw => by
  obtain ⟨M, hp, hl⟩ := hp
  refine ⟨fa.defers, .tuple #[v1, v2, v3], ?_, _, M, rfl, hp, fw.mono hl⟩
  have e1 := h1 a w fa fw
  have e2 := h2 a w fa fw
  have e3 := h3 a w fa fw
  rw [results_run [r1, r2, r3] hr [v1, v2, v3] (by simp [e1, e2, e3])]
  simp

end
end Hd
end
section
namespace Hd
open Go

def nth {α : Type} : List α → Nat → Option α
  | [], _ => none
  | a :: _, 0 => some a
  | _ :: l, n + 1 => nth l n

theorem nth_eq {α : Type} : ∀ (l : List α) (n : Nat), nth l n = l[n]?
  | [], _ => by simp [nth]
  | a :: _, 0 => by simp [nth]
  | _ :: l, n + 1 => by simp [nth, nth_eq l n]

class SetL (l : List Value) (i : Nat) (v : Value) (l' : outParam (List Value)) : Prop where
  out : l' = l.set i v
instance SetL.zero (a v : Value) (l : List Value) : SetL (a :: l) 0 v (v :: l) := ⟨by simp⟩
instance SetL.succ (a v : Value) (l l' : List Value) (i : Nat) [s : SetL l i v l'] : SetL (a :: l) (i + 1) v (a :: l') := ⟨by simp [s.out]⟩

abbrev Blk (b : Nat) (T : TypeId) (l : List Value) : HP := Pt b (.cells l.toArray T (0, 0))

/-- is the operation carried out? -/
def wantE (lops : List Oper) (env : Env) (o : Oper) : Option Bool :=
  match o.guard with
  | none => some true
  | some (j, want) =>
    match nth lops j with
    | some oj => match oj.dst with
      | some t => match env.get t with
        | some (.bool b) => some (b == want)
        | some (.tuple _) => some false
        | _ => none
      | none => none
    | none => none

theorem wanted_of {lops : List Oper} {n : Nat} {env : Env} {a : Act} {o : Oper} {r : Bool} (f : Fits n env a) (h : wantE lops env o = some r) : Region.wanted o (yielded lops.toArray a.tmps) = r := by
  unfold wantE at h
  unfold Region.wanted
  cases hg : o.guard with
  | none => simp [hg] at h; simp [h]
  | some jw =>
    obtain ⟨j, want⟩ := jw
    simp only [hg] at h ⊢
    rw [nth_eq] at h
    cases hj : lops[j]? with
    | none => simp [hj] at h
    | some oj =>
      simp only [hj] at h
      cases hd : oj.dst with
      | none => simp [hd] at h
      | some t =>
        simp only [hd] at h
        cases hv : env.get t with
        | none => simp [hv] at h
        | some v =>
          simp only [hv] at h
          have := f.get t v hv
          cases v <;> simp at h
          · rename_i b
            simp only [yielded, List.getElem?_toArray, hj, Option.bind_some, hd, this]
            rw [← h]
            cases b <;> cases want <;> rfl
          · subst h
            simp only [yielded, List.getElem?_toArray, hj, Option.bind_some, hd, this]
            rfl

section
variable (P : Program) (g : Gl) (n : Nat) (env : Env) (L : List HP)
/-- the operation yields v and turns nothing -/
def PO (o : Oper) (v : Value) : Prop := ∀ a w, Fits n env a → Fit g L w → (execOp a.eval o).run P w = .ok (.value v) w
/-- the operation yields v and leaves M -/
def EO (o : Oper) (v : Value) (M : List HP) : Prop := ∀ a w, Fits n env a → Fit g L w → ∃ w', (execOp a.eval o).run P w = .ok (.value v) w' ∧ Fit g M w'
/-- the operation yields nothing and leaves M -/
def SO (o : Oper) (M : List HP) : Prop := ∀ a w, Fits n env a → Fit g L w → ∃ w', (execOp a.eval o).run P w = .ok .skip w' ∧ Fit g M w'
/-- one operation: whatever it leaves meets K -/
def ST (lops : List Oper) (o : Oper) (K : Env → List HP → Prop) : Prop :=
  ∀ (Q : Exit → Act → World → Prop) (K' : Act → World → Prop), (∀ env' L', K env' L' → ∀ a w, Fits n env' a → Fit g L' w → K' a w) → ∀ a w, Fits n env a → Fit g L w →
    if Region.wanted o (yielded lops.toArray a.tmps) then o.wp P a w K' Q else K' (a.put o.dst undef) w
def WS (lops : List Oper) (l : List Oper) (Q : Exit → Act → World → Prop) : Prop := ∀ a w, Fits n env a → Fit g L w → wpList P lops.toArray Q l a w
end

section
variable {P : Program} {g : Gl} {n : Nat} {env : Env} {L M : List HP} {Q : Exit → Act → World → Prop} {lops l : List Oper} {o : Oper} {d : Nat} {v : Value} {K : Env → List HP → Prop}

theorem r_reg {id : Nat} (k : WS P g n env L lops lops Q) : WP P g n (.region id lops.toArray false) Q env L :=
  fun a w fa fw => wp_region_lit (k a w fa fw)

theorem s_nil (k : AT g n .normal Q env L) : WS P g n env L lops [] Q := fun a w fa fw => k a w fa fw
theorem ws (k : ST P g n env L lops o (fun env' L' => WS P g n env' L' lops l Q)) : WS P g n env L lops (o :: l) Q := by
  intro a w fa fw
  have := k Q (wpList P lops.toArray Q l) (fun _ _ h => h) a w fa fw
  unfold wpList
  split
  · rename_i hw; rw [if_pos hw] at this; exact .inl this
  · rename_i hw; rw [if_neg hw] at this; exact this
theorem s_ent {M : List HP} (h : ∀ h, Sat L h → Sat M h) (k : WS P g n env M lops l Q) : WS P g n env L lops l Q := fun a w fa fw => k a w fa (fw.mono h)

theorem st_yes (hw : wantE lops env o = some true) (k : ∀ (Q : Exit → Act → World → Prop) (K' : Act → World → Prop), (∀ env' L', K env' L' → ∀ a w, Fits n env' a → Fit g L' w → K' a w) → ∀ a w, Fits n env a → Fit g L w → o.wp P a w K' Q) :
    ST P g n env L lops o K := by
  intro Q K' hk a w fa fw
  rw [if_pos (wanted_of fa hw)]
  exact k Q K' hk a w fa fw
theorem st_no (hw : wantE lops env o = some false) (hd : o.dst = some d) (hn : Nat.blt d n = true) (k : K ((d, undef) :: env) L) : ST P g n env L lops o K := by
  intro Q K' hk a w fa fw
  rw [if_neg (by rw [wanted_of fa hw]; simp), hd]
  exact hk _ _ k _ w (fa.put hn undef) fw
theorem st_no0 (hw : wantE lops env o = some false) (hd : o.dst = none) (k : K env L) : ST P g n env L lops o K := by
  intro Q K' hk a w fa fw
  rw [if_neg (by rw [wanted_of fa hw]; simp), hd]
  exact hk _ _ k _ w fa fw
/-- a value -/
theorem st_po (h : PO P g n env L o v) (hw : wantE lops env o = some true) (hd : o.dst = some d) (hn : Nat.blt d n = true) (k : K ((d, v) :: env) L) : ST P g n env L lops o K :=
  st_yes hw fun Q K' hk a w fa fw => by
    unfold Oper.wp
    rw [h a w fa fw, Oper.upon_value, hd]
    exact hk _ _ k _ w (fa.put hn v) fw
theorem st_po0 (h : PO P g n env L o v) (hw : wantE lops env o = some true) (hd : o.dst = none) (k : K env L) : ST P g n env L lops o K :=
  st_yes hw fun Q K' hk a w fa fw => by
    unfold Oper.wp
    rw [h a w fa fw, Oper.upon_value, hd]
    exact hk _ _ k _ w fa fw
theorem st_so (h : SO P g n env L o M) (hw : wantE lops env o = some true) (hd : o.dst = none) (k : K env M) : ST P g n env L lops o K :=
  st_yes hw fun Q K' hk a w fa fw => by
    unfold Oper.wp
    obtain ⟨w', e, fw'⟩ := h a w fa fw
    rw [e, Oper.upon_skip, hd]
    exact hk _ _ k _ w' fa fw'
/-- an operation whose value is known only by a property -/
def XO (P : Program) (g : Gl) (n : Nat) (env : Env) (L : List HP) (o : Oper) (R : Value → List HP → Prop) : Prop :=
  ∀ a w, Fits n env a → Fit g L w → ∃ v M w', (execOp a.eval o).run P w = .ok (.value v) w' ∧ R v M ∧ Fit g M w'
theorem st_xo {R : Value → List HP → Prop} (h : XO P g n env L o R) (hw : wantE lops env o = some true) (hd : o.dst = some d) (hn : Nat.blt d n = true) (k : ∀ v M, R v M → K ((d, v) :: env) M) : ST P g n env L lops o K :=
  st_yes hw fun Q K' hk a w fa fw => by
    unfold Oper.wp
    obtain ⟨v, M, w', e, hr, fw'⟩ := h a w fa fw
    rw [e, Oper.upon_value, hd]
    exact hk _ _ (k v M hr) _ w' (fa.put hn v) fw'
theorem st_xo0 {R : Value → List HP → Prop} (h : XO P g n env L o R) (hw : wantE lops env o = some true) (hd : o.dst = none) (k : ∀ v M, R v M → K env M) : ST P g n env L lops o K :=
  st_yes hw fun Q K' hk a w fa fw => by
    unfold Oper.wp
    obtain ⟨v, M, w', e, hr, fw'⟩ := h a w fa fw
    rw [e, Oper.upon_value, hd]
    exact hk _ _ (k v M hr) _ w' fa fw'

/-! ## calls -/
/-- the operation is the call of f -/
def CO (P : Program) (g : Gl) (n : Nat) (env : Env) (L : List HP) (o : Oper) (f : FuncId) (args : Array Value) : Prop :=
  ∀ a w, Fits n env a → Fit g L w → (execOp a.eval o).run P w = (callFunc f args).run P w

theorem st_call {f : FuncId} {args : Array Value} {Pre R : List HP} {Post : Value → List HP → Prop} (h : CO P g n env L o f args) (hs : Spec P f args Pre Post) (t : Takes L Pre R)
    (hw : wantE lops env o = some true) (hd : o.dst = some d) (hn : Nat.blt d n = true) (k : ∀ v M, Post v M → K ((d, v) :: env) (M ++ R)) : ST P g n env L lops o K :=
  st_yes hw fun Q K' hk a w fa fw => by
    unfold Oper.wp
    rw [h a w fa fw, hs.enters, Oper.upon_enter]
    have fw' : Fit g (Pre ++ [All R]) w := fw.mono fun _ hh => sat_app.1 (t.out _ hh)
    refine (hs.calls g _ w fw').mono ?_
    rintro e w' ⟨v, M, rfl, hp, fm⟩
    simp only [hd]
    exact hk _ _ (k v M hp) _ w' (fa.put hn v) (fm.mono fun _ hh => sat_app.2 hh)
theorem st_call0 {f : FuncId} {args : Array Value} {Pre R : List HP} {Post : Value → List HP → Prop} (h : CO P g n env L o f args) (hs : Spec P f args Pre Post) (t : Takes L Pre R)
    (hw : wantE lops env o = some true) (hd : o.dst = none) (k : ∀ v M, Post v M → K env (M ++ R)) : ST P g n env L lops o K :=
  st_yes hw fun Q K' hk a w fa fw => by
    unfold Oper.wp
    rw [h a w fa fw, hs.enters, Oper.upon_enter]
    have fw' : Fit g (Pre ++ [All R]) w := fw.mono fun _ hh => sat_app.1 (t.out _ hh)
    refine (hs.calls g _ w fw').mono ?_
    rintro e w' ⟨v, M, rfl, hp, fm⟩
    simp only [hd]
    exact hk _ _ (k v M hp) _ w' fa (fm.mono fun _ hh => sat_app.2 hh)

/-- the arguments -/
def evs (env : Env) : List Operand → Option (List Value)
  | [] => some []
  | x :: xs => match env.ev x with
    | some v => match evs env xs with
      | some vs => some (v :: vs)
      | none => none
    | none => none
theorem evs_map {a : Act} (fa : Fits n env a) : ∀ {xs : List Operand} {vs : List Value}, evs env xs = some vs → xs.map a.eval = vs
  | [], vs, h => by simp [evs] at h; simp [h]
  | x :: xs, vs, h => by
    simp only [evs] at h
    cases hx : env.ev x with
    | none => simp [hx] at h
    | some v =>
      simp only [hx] at h
      cases hxs : evs env xs with
      | none => simp [hxs] at h
      | some us =>
        simp only [hxs] at h
        have := Option.some.inj h
        subst this
        simp [fa.ev hx, evs_map fa hxs]

section ops
variable {dst : Option Tmp} {ty : TypeId} {pos : String} {af : Array Edge} {gd : Option (Nat × Bool)}

theorem co_fn {f : Operand} {fid : FuncId} {xs : List Operand} {vs : List Value} {tys : Array TypeId} (hf : env.ev f = some (.func (.func fid) #[] #[])) (hxs : evs env xs = some vs) :
    CO P g n env L ⟨dst, .call ⟨.value f, xs.toArray, tys⟩, ty, pos, af, gd⟩ fid vs.toArray := by
  intro a w fa fw
  simp only [execOp, resolve, Sem.run_bind, fa.ev hf, Deferred.ofValue, Sem.run_pure, Result.andThen_ok, invoke, List.map_toArray, evs_map fa hxs, Array.append_empty, Array.empty_append]

theorem co_clo {f : Operand} {fid : FuncId} {xs : List Operand} {vs fs cs : List Value} {tys : Array TypeId} (hf : env.ev f = some (.func (.func fid) fs.toArray cs.toArray)) (hxs : evs env xs = some vs) :
    CO P g n env L ⟨dst, .call ⟨.value f, xs.toArray, tys⟩, ty, pos, af, gd⟩ fid (fs ++ vs ++ cs).toArray := by
  intro a w fa fw
  simp only [execOp, resolve, Sem.run_bind, fa.ev hf, Deferred.ofValue, Sem.run_pure, Result.andThen_ok, invoke, List.map_toArray, evs_map fa hxs, List.append_toArray]

/-! ## values -/
theorem po_move {x : Operand} (hx : env.ev x = some v) : PO P g n env L ⟨dst, .move x, ty, pos, af, gd⟩ v := by
  intro a w fa fw; simp [execOp, fa.ev hx]
theorem po_assign {x : Operand} (hx : env.ev x = some v) : PO P g n env L ⟨dst, .assign x, ty, pos, af, gd⟩ v := by
  intro a w fa fw; simp [execOp, fa.ev hx]
theorem po_pick {c x y : Operand} {b : Bool} {u1 u2 : Value} (hc : env.ev c = some (.bool b)) (hx : env.ev x = some u1) (hy : env.ev y = some u2) :
    PO P g n env L ⟨dst, .pick c x y, ty, pos, af, gd⟩ (if b then u1 else u2) := by
  intro a w fa fw
  simp only [execOp, fa.ev hc, fa.ev hx, fa.ev hy, asBool, Sem.run_bind, Sem.run_pure, Result.andThen_ok]
theorem po_pick_t {c x y : Operand} {u : Value} (hc : env.ev c = some (.bool true)) (hx : env.ev x = some u) : PO P g n env L ⟨dst, .pick c x y, ty, pos, af, gd⟩ u := by
  intro a w fa fw
  simp [execOp, fa.ev hc, fa.ev hx, asBool]
theorem po_pick_f {c x y : Operand} {u : Value} (hc : env.ev c = some (.bool false)) (hy : env.ev y = some u) : PO P g n env L ⟨dst, .pick c x y, ty, pos, af, gd⟩ u := by
  intro a w fa fw
  simp [execOp, fa.ev hc, fa.ev hy, asBool]
theorem po_is {u u' : Value} (h : PO P g n env L o u) (e : u = u') : PO P g n env L o u' := e ▸ h
theorem po_bt {b : Bool} (h : PO P g n env L o (.bool b)) (e : b = true) : PO P g n env L o (.bool true) := e ▸ h
theorem po_bf {b : Bool} (h : PO P g n env L o (.bool b)) (e : b = false) : PO P g n env L o (.bool false) := e ▸ h
theorem po_nil {x : Operand} {ad : Addr} (hx : env.ev x = some (.pointer (some ad))) : PO P g n env L ⟨dst, .nilCheck x, ty, pos, af, gd⟩ (.pointer (some ad)) := by
  intro a w fa fw; simp [execOp, fa.ev hx]
theorem po_nilf {x : Operand} {fid : FuncId} {fs cs : Array Value} (hx : env.ev x = some (.func (.func fid) fs cs)) : PO P g n env L ⟨dst, .nilCheck x, ty, pos, af, gd⟩ (.func (.func fid) fs cs) := by
  intro a w fa fw; simp [execOp, fa.ev hx]

theorem wrap_i64 (x : Int) (h1 : -9223372036854775808 ≤ x) (h2 : x ≤ 9223372036854775807) : IntKind.i64.wrap x = x := IntWalk.i64_in x (by omega)

theorem guard_int {op : BinOp} {t : TypeId} {x y : Operand} {k : IntKind} {p q : Int} {w : World} : (eqGuard op t x y (.int k p) (.int k q)).run P w = .ok () w := by
  unfold eqGuard
  cases op <;> simp

theorem po_add {x y : Operand} {k : IntKind} {p q : Int} {t t2 : TypeId} (hx : env.ev x = some (.int k p)) (hy : env.ev y = some (.int k q)) :
    PO P g n env L ⟨dst, .binOp .add t x y t2, ty, pos, af, gd⟩ (.int k (k.wrap (p + q))) := by
  intro a w fa fw
  simp [execOp, fa.ev hx, fa.ev hy, guard_int, binOp, Op.intArith]
theorem po_add' {x y : Operand} {p q : Int} {t t2 : TypeId} (hx : env.ev x = some (.int .i64 p)) (hy : env.ev y = some (.int .i64 q)) (h1 : -9223372036854775808 ≤ p + q) (h2 : p + q ≤ 9223372036854775807) :
    PO P g n env L ⟨dst, .binOp .add t x y t2, ty, pos, af, gd⟩ (.int .i64 (p + q)) := by
  have := po_add (P := P) (g := g) (n := n) (L := L) (dst := dst) (ty := ty) (pos := pos) (af := af) (gd := gd) (t := t) (t2 := t2) hx hy
  rwa [wrap_i64 _ h1 h2] at this
theorem po_sub {x y : Operand} {k : IntKind} {p q : Int} {t t2 : TypeId} (hx : env.ev x = some (.int k p)) (hy : env.ev y = some (.int k q)) :
    PO P g n env L ⟨dst, .binOp .sub t x y t2, ty, pos, af, gd⟩ (.int k (k.wrap (p - q))) := by
  intro a w fa fw
  simp [execOp, fa.ev hx, fa.ev hy, guard_int, binOp, Op.intArith]
theorem po_sub' {x y : Operand} {p q : Int} {t t2 : TypeId} (hx : env.ev x = some (.int .i64 p)) (hy : env.ev y = some (.int .i64 q)) (h1 : -9223372036854775808 ≤ p - q) (h2 : p - q ≤ 9223372036854775807) :
    PO P g n env L ⟨dst, .binOp .sub t x y t2, ty, pos, af, gd⟩ (.int .i64 (p - q)) := by
  have := po_sub (P := P) (g := g) (n := n) (L := L) (dst := dst) (ty := ty) (pos := pos) (af := af) (gd := gd) (t := t) (t2 := t2) hx hy
  rwa [wrap_i64 _ h1 h2] at this
theorem po_mul {x y : Operand} {k : IntKind} {p q : Int} {t t2 : TypeId} (hx : env.ev x = some (.int k p)) (hy : env.ev y = some (.int k q)) :
    PO P g n env L ⟨dst, .binOp .mul t x y t2, ty, pos, af, gd⟩ (.int k (k.wrap (p * q))) := by
  intro a w fa fw
  simp [execOp, fa.ev hx, fa.ev hy, guard_int, binOp, Op.intArith]
theorem po_mul' {x y : Operand} {p q : Int} {t t2 : TypeId} (hx : env.ev x = some (.int .i64 p)) (hy : env.ev y = some (.int .i64 q)) (h1 : -9223372036854775808 ≤ p * q) (h2 : p * q ≤ 9223372036854775807) :
    PO P g n env L ⟨dst, .binOp .mul t x y t2, ty, pos, af, gd⟩ (.int .i64 (p * q)) := by
  have := po_mul (P := P) (g := g) (n := n) (L := L) (dst := dst) (ty := ty) (pos := pos) (af := af) (gd := gd) (t := t) (t2 := t2) hx hy
  rwa [wrap_i64 _ h1 h2] at this
theorem po_quo' {x y : Operand} {p q : Int} {t t2 : TypeId} (hx : env.ev x = some (.int .i64 p)) (hy : env.ev y = some (.int .i64 q)) (h1 : 0 ≤ p) (h2 : p ≤ 9223372036854775807) (h3 : 0 < q) :
    PO P g n env L ⟨dst, .binOp .quo t x y t2, ty, pos, af, gd⟩ (.int .i64 (p / q)) := by
  intro a w fa fw
  have hq : ¬ q = 0 := by omega
  have e : p.tdiv q = p / q := Int.tdiv_eq_ediv_of_nonneg h1
  have b1 : 0 ≤ p / q := Int.ediv_nonneg h1 (by omega)
  have b2 : p / q ≤ p := Int.ediv_le_self q h1
  simp only [execOp, fa.ev hx, fa.ev hy, guard_int, binOp, Op.intDiv, Sem.run_bind, Result.andThen_ok, ne_eq, not_true_eq_false, if_false, hq, Sem.run_pure, e]
  rw [wrap_i64 _ (by omega) (by omega)]
theorem po_rem' {x y : Operand} {p q : Int} {t t2 : TypeId} {k : IntKind} (hx : env.ev x = some (.int k p)) (hy : env.ev y = some (.int k q)) (h1 : 0 ≤ p) (h3 : 0 < q) :
    PO P g n env L ⟨dst, .binOp .rem t x y t2, ty, pos, af, gd⟩ (.int k (p % q)) := by
  intro a w fa fw
  have hq : ¬ q = 0 := by omega
  have e : p.tmod q = p % q := Int.tmod_eq_emod_of_nonneg h1
  simp only [execOp, fa.ev hx, fa.ev hy, guard_int, binOp, Op.intDiv, Sem.run_bind, Result.andThen_ok, ne_eq, not_true_eq_false, if_false, hq, Sem.run_pure, e]

theorem po_lt {x y : Operand} {k : IntKind} {p q : Int} {t t2 : TypeId} (hx : env.ev x = some (.int k p)) (hy : env.ev y = some (.int k q)) :
    PO P g n env L ⟨dst, .binOp .lss t x y t2, ty, pos, af, gd⟩ (.bool (decide (p < q))) := by
  intro a w fa fw
  simp [execOp, fa.ev hx, fa.ev hy, guard_int, binOp, Op.intCmp]
theorem po_le {x y : Operand} {k : IntKind} {p q : Int} {t t2 : TypeId} (hx : env.ev x = some (.int k p)) (hy : env.ev y = some (.int k q)) :
    PO P g n env L ⟨dst, .binOp .leq t x y t2, ty, pos, af, gd⟩ (.bool (decide (p ≤ q))) := by
  intro a w fa fw
  simp [execOp, fa.ev hx, fa.ev hy, guard_int, binOp, Op.intCmp]
theorem po_gt {x y : Operand} {k : IntKind} {p q : Int} {t t2 : TypeId} (hx : env.ev x = some (.int k p)) (hy : env.ev y = some (.int k q)) :
    PO P g n env L ⟨dst, .binOp .gtr t x y t2, ty, pos, af, gd⟩ (.bool (decide (q < p))) := by
  intro a w fa fw
  simp [execOp, fa.ev hx, fa.ev hy, guard_int, binOp, Op.intCmp]
theorem po_ge {x y : Operand} {k : IntKind} {p q : Int} {t t2 : TypeId} (hx : env.ev x = some (.int k p)) (hy : env.ev y = some (.int k q)) :
    PO P g n env L ⟨dst, .binOp .geq t x y t2, ty, pos, af, gd⟩ (.bool (decide (q ≤ p))) := by
  intro a w fa fw
  simp [execOp, fa.ev hx, fa.ev hy, guard_int, binOp, Op.intCmp]
theorem po_eq {x y : Operand} {k : IntKind} {p q : Int} {t t2 : TypeId} (hx : env.ev x = some (.int k p)) (hy : env.ev y = some (.int k q)) :
    PO P g n env L ⟨dst, .binOp .eql t x y t2, ty, pos, af, gd⟩ (.bool (decide (p = q))) := by
  intro a w fa fw
  simp only [execOp, fa.ev hx, fa.ev hy, guard_int, binOp, Op.intCmp, Sem.run_bind, Result.andThen_ok, ne_eq, not_true_eq_false, if_false, Sem.run_pure]
  congr 3
theorem po_ne {x y : Operand} {k : IntKind} {p q : Int} {t t2 : TypeId} (hx : env.ev x = some (.int k p)) (hy : env.ev y = some (.int k q)) :
    PO P g n env L ⟨dst, .binOp .neq t x y t2, ty, pos, af, gd⟩ (.bool (decide (p ≠ q))) := by
  intro a w fa fw
  simp only [execOp, fa.ev hx, fa.ev hy, guard_int, binOp, Op.intCmp, Sem.run_bind, Result.andThen_ok, ne_eq, not_true_eq_false, if_false, Sem.run_pure]
  congr 3
  simp [bne, decide_not, BEq.beq]
theorem po_not {x : Operand} {b : Bool} {t : TypeId} (hx : env.ev x = some (.bool b)) : PO P g n env L ⟨dst, .unOp .not t x, ty, pos, af, gd⟩ (.bool (!b)) := by
  intro a w fa fw; simp [execOp, fa.ev hx, Op.unary]
theorem po_extract {x : Operand} {vs : List Value} {i : Nat} (hx : env.ev x = some (.tuple vs.toArray)) (hi : nth vs i = some v) : PO P g n env L ⟨dst, .extract x i, ty, pos, af, gd⟩ v := by
  intro a w fa fw
  rw [nth_eq] at hi
  simp [execOp, fa.ev hx, Instr.extract, hi]

end ops
end
end Hd
end
section
namespace Hd
open Go

/-! ## closed facts on types -/
def flatB (P : Program) (t : TypeId) : Bool :=
  match P.underlying t with
  | some (.struct _) => false
  | some (.array _ _) => false
  | some _ => (P.cellsOf t == 1) && (P.info? t).isSome
  | none => false
def aggB (P : Program) (t : TypeId) (k : Nat) : Bool :=
  match P.underlying t with
  | some (.struct _) => (P.cellsOf t == k) && (P.info? t).isSome
  | some (.array _ _) => (P.cellsOf t == k) && (P.info? t).isSome
  | _ => false
/-- field f of the struct type s: where its cells begin -/
def fieldB (P : Program) (s : TypeId) (f off : Nat) : Bool :=
  match P.underlying s with
  | some (.struct fs) => match fs[f]? with
    | some x => (x.offset == off) && !(P.cellsOf x.type == 0) && (P.info? x.type).isSome
    | none => false
  | _ => false

theorem isAgg_flat {P : Program} {t : TypeId} (h : flatB P t = true) (w : World) : (isAgg t).run P w = .ok false w := by
  unfold flatB at h
  cases e : P.underlying t with
  | none => simp [e] at h
  | some d => cases d <;> simp [e] at h <;> simp [isAgg, underlying, e]
theorem size_flat {P : Program} {t : TypeId} (h : flatB P t = true) (w : World) : (Go.sizeOf t).run P w = .ok 1 w := by
  unfold flatB at h
  cases e : P.info? t with
  | none => cases e2 : P.underlying t with
    | none => simp [e2] at h
    | some d => cases d <;> simp [e2, e] at h
  | some i =>
    have : i.size = 1 := by
      cases e2 : P.underlying t with
      | none => simp [e2] at h
      | some d => cases d <;> simp [e2, e, Program.cellsOf] at h <;> exact h
    simp [Go.sizeOf, typeInfo, e, this]
theorem isAgg_agg {P : Program} {t : TypeId} {k : Nat} (h : aggB P t k = true) (w : World) : (isAgg t).run P w = .ok true w := by
  unfold aggB at h
  cases e : P.underlying t with
  | none => simp [e] at h
  | some d => cases d <;> simp [e] at h <;> simp [isAgg, underlying, e]
theorem size_agg {P : Program} {t : TypeId} {k : Nat} (h : aggB P t k = true) (w : World) : (Go.sizeOf t).run P w = .ok k w := by
  unfold aggB at h
  cases e : P.info? t with
  | none => cases e2 : P.underlying t with
    | none => simp [e2] at h
    | some d => cases d <;> simp [e2, e] at h
  | some i =>
    have : i.size = k := by
      cases e2 : P.underlying t with
      | none => simp [e2] at h
      | some d => cases d <;> simp [e2, e, Program.cellsOf] at h <;> exact h
    simp [Go.sizeOf, typeInfo, e, this]

/-! ## cells -/
/-- k cells from off on -/
def slc : List Value → Nat → Nat → Option (List Value)
  | _, _, 0 => some []
  | [], _, _ + 1 => none
  | a :: l, 0, k + 1 => match slc l 0 k with
    | some r => some (a :: r)
    | none => none
  | _ :: l, off + 1, k + 1 => slc l off (k + 1)

theorem slc_spec : ∀ (l : List Value) (off k : Nat) (r : List Value), slc l off k = some r → r = (l.drop off).take k ∧ r.length = k
  | _, _, 0, r, h => by simp [slc] at h; simp [← h]
  | [], _, _ + 1, r, h => by simp [slc] at h
  | a :: l, 0, k + 1, r, h => by
    simp only [slc] at h
    cases e : slc l 0 k with
    | none => simp [e] at h
    | some r' =>
      simp [e] at h
      have := slc_spec l 0 k r' e
      subst h
      simp at this
      simp [this.2]; exact this.1
  | _ :: l, off + 1, k + 1, r, h => by
    simp only [slc] at h
    have := slc_spec l off (k + 1) r h
    simpa using this

theorem slc_get {l : List Value} {off k : Nat} {r : List Value} (h : slc l off k = some r) (i : Nat) (hi : i < k) : l[off + i]? = r[i]? := by
  have := slc_spec l off k r h
  rw [this.1]
  simp [hi]

/-- v lies at the cells vs from off on -/
def putL : List Value → Nat → List Value → List Value
  | l, _, [] => l
  | l, off, v :: vs => putL (l.set off v) (off + 1) vs
class PutL (l : List Value) (off : Nat) (vs : List Value) (l' : outParam (List Value)) : Prop where
  out : l' = putL l off vs
instance PutL.nil (l : List Value) (off : Nat) : PutL l off [] l := ⟨rfl⟩
instance PutL.cons (l : List Value) (off : Nat) (v : Value) (vs l' l'' : List Value) [s : SetL l off v l'] [t : PutL l' (off + 1) vs l''] : PutL l off (v :: vs) l'' :=
  ⟨by rw [t.out, s.out, putL]⟩

theorem Fit.cellL {g : Gl} {L : List HP} {w : World} {b off : Nat} {l : List Value} {T : TypeId} {fr : Nat × Nat} {v : Value} (f : Fit g (Pt b (.cells l.toArray T fr) :: L) w) (e : l[off]? = some v) : w.cell? ⟨b, off, none⟩ = some v :=
  f.cell (by simpa using e)

theorem run_loadCells {P : Program} {w : World} {b : Nat} : ∀ (vs : List Value) (off i : Nat) (acc : Array Value), (∀ j, j < vs.length → w.cell? ⟨b, off + (i + j), none⟩ = vs[j]?) →
    (loadCellsFrom ⟨b, off, none⟩ i vs.length acc).run P w = .ok (acc ++ vs.toArray) w
  | [], _, _, acc, _ => by simp [loadCellsFrom]
  | v :: vs, off, i, acc, h => by
    have h0 := h 0 (by simp)
    simp only [Nat.add_zero, List.getElem?_cons_zero] at h0
    have ha : (Addr.add ⟨b, off, none⟩ i) = ⟨b, off + i, none⟩ := by
      unfold Addr.add; by_cases e : i = 0 <;> simp [e]
    simp only [List.length_cons, loadCellsFrom, Sem.run_bind, ha, run_load, h0, Result.andThen_ok]
    have ih := run_loadCells (P := P) (w := w) (b := b) vs off (i + 1) (acc.push v) (fun j hj => by
      have := h (j + 1) (by simp; omega)
      simpa [Nat.add_assoc, Nat.add_comm 1 j] using this)
    rw [ih]; simp

theorem run_loadVar_agg {P : Program} {w : World} {t : TypeId} {b off k : Nat} {vs : List Value} (ht : aggB P t k = true) (hl : vs.length = k) (h : ∀ j, j < vs.length → w.cell? ⟨b, off + j, none⟩ = vs[j]?) :
    (loadVar t ⟨b, off, none⟩).run P w = .ok (.agg vs.toArray) w := by
  have := run_loadCells (P := P) (w := w) (b := b) vs off 0 #[] (by simpa using h)
  rw [hl] at this
  simp only [loadVar, Sem.run_bind, isAgg_agg ht, Result.andThen_ok, size_agg ht, loadCells, if_true, this, Sem.run_pure, Sem.run_ite]
  simp

theorem setL_oob (l : List Value) (i : Nat) (v : Value) (h : l.length ≤ i) : l.set i v = l := List.set_eq_of_length_le h

/-- a run of stores -/
theorem run_storeCells {P : Program} {g : Gl} {L : List HP} {b : Nat} {T : TypeId} : ∀ (vs : List Value) (l : List Value) (off i : Nat) (w : World), Fit g (Blk b T l :: L) w → off + i + vs.length ≤ l.length → (∀ v ∈ vs, v.oneCell' = true) →
    ∃ w', (storeCells ⟨b, off, none⟩ vs i).run P w = .ok () w' ∧ Fit g (Blk b T (putL l (off + i) vs) :: L) w'
  | [], l, off, i, w, f, _, _ => ⟨w, by simp [storeCells], f⟩
  | v :: vs, l, off, i, w, f, hb, h1 => by
    have ha : (Addr.add ⟨b, off, none⟩ i) = ⟨b, off + i, none⟩ := by
      unfold Addr.add; by_cases e : i = 0 <;> simp [e]
    simp only [List.length_cons] at hb
    have hlt : off + i < l.length := by omega
    have hc : w.cell? ⟨b, off + i, none⟩ = some l[off + i] := f.cellL (by simp)
    have hf : w.frozen? ⟨b, off + i, none⟩ = false := by
      have := sat_pt f.sat
      simp only [frag] at this
      simp [World.frozen?, this]
    have f2 := f.setCell (off := off + i) v
    have e2 : (l.toArray.setIfInBounds (off + i) v) = (l.set (off + i) v).toArray := by simp
    rw [e2] at f2
    obtain ⟨w', hr, fw'⟩ := run_storeCells (P := P) vs (l.set (off + i) v) off (i + 1) (w.setCell ⟨b, off + i, none⟩ v) f2 (by simp; omega) (fun x hx => h1 x (by simp [hx]))
    refine ⟨w', ?_, by simpa [putL, Nat.add_assoc] using fw'⟩
    simp only [storeCells, Sem.run_bind, ha, run_store _ _ _ _ _ (h1 v (by simp)), hc, hf, Bool.false_eq_true, if_false, Result.andThen_ok, hr]

section
variable {P : Program} {g : Gl} {n : Nat} {env : Env} {L M : List HP} {Q : Exit → Act → World → Prop} {lops l : List Oper} {o : Oper} {d : Nat} {v : Value}
variable {dst : Option Tmp} {ty : TypeId} {pos : String} {af : Array Edge} {gd : Option (Nat × Bool)}

theorem po_load {t : TypeId} {x : Operand} {b off : Nat} {cs : List Value} {T : TypeId} {fr : Nat × Nat} {R : List HP} (hx : env.ev x = some (.pointer (some ⟨b, off, none⟩))) (ht : flatB P t = true)
    [m : HasPt L b (.cells cs.toArray T fr) R] (hv : nth cs off = some v) : PO P g n env L ⟨dst, .load t x, ty, pos, af, gd⟩ v := by
  intro a w fa fw
  have fw' := fw.mono m.out
  rw [nth_eq] at hv
  have hc := fw'.cellL hv
  simp [execOp, fa.ev hx, Instr.loadAt, Instr.sureAddr, loadVar, isAgg_flat ht, hc]

theorem po_loada {t : TypeId} {x : Operand} {b off k : Nat} {cs vs : List Value} {T : TypeId} {fr : Nat × Nat} {R : List HP} (hx : env.ev x = some (.pointer (some ⟨b, off, none⟩))) (ht : aggB P t k = true)
    [m : HasPt L b (.cells cs.toArray T fr) R] (hv : slc cs off k = some vs) : PO P g n env L ⟨dst, .load t x, ty, pos, af, gd⟩ (.agg vs.toArray) := by
  intro a w fa fw
  have fw' := fw.mono m.out
  have hl := (slc_spec _ _ _ _ hv).2
  have := run_loadVar_agg (P := P) (w := w) (b := b) (off := off) ht hl (fun j hj => by
    have h1 := slc_get hv j (by omega)
    have : vs[j]? = some vs[j] := by simp
    rw [this] at h1 ⊢
    exact fw'.cellL h1)
  simp [execOp, fa.ev hx, Instr.loadAt, Instr.sureAddr, this]

theorem so_store {t : TypeId} {x y : Operand} {b off : Nat} {cs cs' : List Value} {T : TypeId} {R : List HP} (hx : env.ev x = some (.pointer (some ⟨b, off, none⟩))) (hy : env.ev y = some v) (ht : flatB P t = true) (h1 : v.oneCell' = true)
    [m : HasPt L b (.cells cs.toArray T (0, 0)) R] [s : SetL cs off v cs'] (hlt : Nat.blt off cs.length = true) : SO P g n env L ⟨dst, .store t x y, ty, pos, af, gd⟩ (Blk b T cs' :: R) := by
  intro a w fa fw
  have fw' := fw.mono m.out
  have hb : off < cs.length := by simpa [Nat.blt_eq] using hlt
  have hcell : v.cells = #[v] := by cases v <;> simp [Value.oneCell'] at h1 <;> rfl
  obtain ⟨w', hr, fw2⟩ := run_storeCells (P := P) [v] cs off 0 w fw' (by simp; omega) (by simpa using h1)
  refine ⟨w', ?_, ?_⟩
  · simp [execOp, fa.ev hx, fa.ev hy, Instr.storeAt, Instr.sureAddr, storeVar, size_flat ht, hcell, hr]
  · rw [s.out]; simpa [putL] using fw2

theorem so_storea {t : TypeId} {x y : Operand} {b off k : Nat} {cs cs' vs : List Value} {T : TypeId} {R : List HP} (hx : env.ev x = some (.pointer (some ⟨b, off, none⟩))) (hy : env.ev y = some (.agg vs.toArray)) (ht : aggB P t k = true)
    (hk : vs.length = k) (h1 : ∀ v ∈ vs, v.oneCell' = true)
    [m : HasPt L b (.cells cs.toArray T (0, 0)) R] [s : PutL cs off vs cs'] (hlt : off + k ≤ cs.length) : SO P g n env L ⟨dst, .store t x y, ty, pos, af, gd⟩ (Blk b T cs' :: R) := by
  intro a w fa fw
  have fw' := fw.mono m.out
  obtain ⟨w', hr, fw2⟩ := run_storeCells (P := P) vs cs off 0 w fw' (by omega) h1
  refine ⟨w', ?_, ?_⟩
  · simp [execOp, fa.ev hx, fa.ev hy, Instr.storeAt, Instr.sureAddr, storeVar, size_agg ht, Value.cells, hr, hk]
  · rw [s.out]; simpa using fw2

theorem run_fieldAt {s : TypeId} {f off : Nat} {ad : Addr} {w : World} (h : fieldB P s f off = true) : (Instr.fieldAt s (.pointer (some ad)) f).run P w = .ok (.pointer (some (ad.add off))) w := by
  unfold fieldB at h
  cases e : P.underlying s with
  | none => simp [e] at h
  | some ds =>
    cases ds <;> simp [e] at h
    rename_i fs
    cases ef : fs[f]? with
    | none => simp [ef] at h
    | some x =>
      simp [ef] at h
      obtain ⟨⟨h1, h2⟩, h3⟩ := h
      obtain ⟨i, hi⟩ := Option.isSome_iff_exists.1 h3
      have : ¬ i.size = 0 := by simpa [Program.cellsOf, hi] using h2
      simp [Instr.fieldAt, underlying, e, ef, Instr.sureAddr, fieldPlace, Go.sizeOf, typeInfo, hi, this, h1]

theorem po_faddr {s : TypeId} {x : Operand} {f b o' off : Nat} (hx : env.ev x = some (.pointer (some ⟨b, o', none⟩))) (h : fieldB P s f off = true) :
    PO P g n env L ⟨dst, .fieldAddr s x f, ty, pos, af, gd⟩ (.pointer (some ⟨b, o' + off, none⟩)) := by
  intro a w fa fw
  have ha : (Addr.add ⟨b, o', none⟩ off) = ⟨b, o' + off, none⟩ := by
    unfold Addr.add; by_cases e : off = 0 <;> simp [e]
  simp [execOp, fa.ev hx, run_fieldAt h, ha]

/-! ## new blocks -/
def zeroB (P : Program) (t : TypeId) : Option (List Value) := ((P.info? t).bind (·.zero)).map (·.cells.toList)

theorem run_zero {t : TypeId} {zs : List Value} {w : World} (h : zeroB P t = some zs) : ∃ z, (zeroValue t).run P w = .ok z w ∧ z.cells = zs.toArray := by
  unfold zeroB at h
  cases e : P.info? t with
  | none => simp [e] at h
  | some i =>
    simp [e] at h
    obtain ⟨z, hz, h2⟩ := h
    exact ⟨z, by simp [zeroValue, typeInfo, e, hz], by rw [← h2]⟩

theorem xo_alloc {t : TypeId} {zs : List Value} (h : zeroB P t = some zs) : XO P g n env L ⟨dst, .alloc t, ty, pos, af, gd⟩ (fun v M => ∃ b, v = .pointer (some ⟨b, 0, none⟩) ∧ M = Blk b t zs :: L) := by
  intro a w fa fw
  obtain ⟨z, hz, hc⟩ := run_zero (w := w) h
  refine ⟨_, _, _, ?_, ⟨w.heap.size, rfl, rfl⟩, fw.push _⟩
  simp [execOp, Instr.alloc, hz, newVar, newRow, hc]

theorem xo_box {t : TypeId} {x : Operand} {u : Value} {vs : List Value} (hx : env.ev x = some u) (hu : u.cells = vs.toArray) : XO P g n env L ⟨dst, .box t x, ty, pos, af, gd⟩ (fun v M => ∃ b, v = .pointer (some ⟨b, 0, none⟩) ∧ M = Blk b t vs :: L) := by
  intro a w fa fw
  refine ⟨_, _, _, ?_, ⟨w.heap.size, rfl, rfl⟩, fw.push _⟩
  simp [execOp, Instr.box, newVar, newRow, fa.ev hx, hu]

end
end Hd
end
section
namespace Hd
open Go

/-- how the elements of a slice lie in cells -/
structure Enc (α : Type) where
  T : TypeId
  k : Nat
  f : α → List Value
  len : ∀ a, (f a).length = k
  pos : 0 < k
  one : ∀ a, ∀ v ∈ f a, v.oneCell' = true

/-- v is a slice that holds xs, in memory of its own -/
def Sl {α : Type} (E : Enc α) (v : Value) (xs : List α) : HP := fun h =>
  (v = .slice none 0 0 ∧ xs = []) ∨
  ∃ b off cap pre post, v = .slice (some ⟨b, off, none⟩) xs.length cap ∧ xs.length ≤ cap ∧ pre.length = off ∧ (cap - xs.length) * E.k ≤ post.length ∧
    Pt b (.cells (pre ++ (xs.flatMap E.f ++ post)).toArray E.T (0, 0)) h

class HasSl (L : List HP) (v : Value) (α : outParam Type) (E : outParam (Enc α)) (xs : outParam (List α)) (R : outParam (List HP)) : Prop where
  out : ∀ h, Sat L h → Sat (Sl E v xs :: R) h
instance (priority := high) HasSl.here {α : Type} (E : Enc α) (v : Value) (xs : List α) (L : List HP) : HasSl (Sl E v xs :: L) v α E xs L := ⟨fun _ h => h⟩
instance (priority := low) HasSl.there {α : Type} (E : Enc α) (v : Value) (xs : List α) (B : HP) (L R : List HP) [t : HasSl L v α E xs R] : HasSl (B :: L) v α E xs (B :: R) :=
  ⟨fun _ h => sat_swap (sat_tail t.out h)⟩

instance (priority := low) Has.nilSl {α : Type} (E : Enc α) (L : List HP) : Has L (Sl E (.slice none 0 0) []) L :=
  ⟨fun h hs => ⟨fun _ => none, h, fun _ => .inl ⟨rfl, rfl⟩, .inl ⟨rfl, rfl⟩, hs⟩⟩

theorem sat_app_left {L M : List HP} {h : Frag} (s : Sat (L ++ M) h) : Sat L h := by
  induction L generalizing h with
  | nil => trivial
  | cons A L ih => exact sat_tail (fun _ => ih) s

theorem entc {L : List HP} {M N R : List HP} (e : M = N) [t : Takes L N R] : ∀ h, Sat L h → Sat M h := fun h hs => e ▸ sat_app_left (t.out h hs)
theorem ent {L : List HP} {M R : List HP} [t : Takes L M R] : ∀ h, Sat L h → Sat M h := fun h hs => sat_app_left (t.out h hs)

/-- the address of (a part of) an element -/
def ead : Value → Nat → Nat → Nat → Value
  | .slice (some ⟨b, off, _⟩) _ _, i, k, o => .pointer (some ⟨b, off + (i * k + o), none⟩)
  | _, _, _, _ => undef

def sliceB (P : Program) (st T k : Nat) : Bool :=
  match P.underlying st with
  | some (.slice e) => (e == T) && (P.cellsOf T == k) && (P.info? T).isSome
  | _ => false

theorem sliceB_und {P : Program} {st T k : Nat} (h : sliceB P st T k = true) : P.underlying st = some (.slice T) ∧ ∃ i, P.info? T = some i ∧ i.size = k := by
  unfold sliceB at h
  cases e : P.underlying st with
  | none => simp [e] at h
  | some d =>
    cases d <;> simp [e] at h
    obtain ⟨⟨h1, h2⟩, h3⟩ := h
    subst h1
    obtain ⟨i, hi⟩ := Option.isSome_iff_exists.1 h3
    exact ⟨rfl, i, hi, by simpa [Program.cellsOf, hi] using h2⟩

theorem flat_get {α : Type} (E : Enc α) : ∀ (xs : List α) (i o : Nat) (x : α), xs[i]? = some x → o < E.k → (xs.flatMap E.f)[i * E.k + o]? = (E.f x)[o]?
  | [], i, o, x, h, _ => by simp at h
  | y :: xs, 0, o, x, h, ho => by
    simp at h; subst h
    simp only [List.flatMap_cons, Nat.zero_mul, Nat.zero_add]
    rw [List.getElem?_append_left (by rw [E.len]; exact ho)]
  | y :: xs, i + 1, o, x, h, ho => by
    have h' : xs[i]? = some x := by simpa using h
    have e : (i + 1) * E.k + o = (E.f y).length + (i * E.k + o) := by rw [E.len, Nat.succ_mul]; omega
    simp only [List.flatMap_cons]
    rw [e, List.getElem?_append_right (by omega), Nat.add_sub_cancel_left]
    exact flat_get E xs i o x h' ho

theorem flat_len {α : Type} (E : Enc α) : ∀ xs : List α, (xs.flatMap E.f).length = xs.length * E.k
  | [] => by simp
  | y :: xs => by simp only [List.flatMap_cons, List.length_append, E.len, flat_len E xs, List.length_cons, Nat.succ_mul]; omega

theorem flat_set {α : Type} (E : Enc α) : ∀ (xs : List α) (i o : Nat) (x x' : α) (v : Value), xs[i]? = some x → o < E.k → (E.f x).set o v = E.f x' → (xs.flatMap E.f).set (i * E.k + o) v = (xs.set i x').flatMap E.f
  | [], i, o, x, x', v, h, _, _ => by simp at h
  | y :: xs, 0, o, x, x', v, h, ho, e => by
    simp at h; subst h
    simp only [List.flatMap_cons, Nat.zero_mul, Nat.zero_add, List.set_cons_zero]
    rw [List.set_append_left _ _ (by rw [E.len]; exact ho), e]
  | y :: xs, i + 1, o, x, x', v, h, ho, e => by
    have h' : xs[i]? = some x := by simpa using h
    have e1 : (i + 1) * E.k + o = (E.f y).length + (i * E.k + o) := by rw [E.len, Nat.succ_mul]; omega
    simp only [List.flatMap_cons, List.set_cons_succ]
    rw [e1, List.set_append_right _ _ (by omega), Nat.add_sub_cancel_left, flat_set E xs i o x x' v h' ho e]

/-- what is known of a slice that has an element -/
theorem sl_open {α : Type} {E : Enc α} {g : Gl} {v : Value} {xs : List α} {R : List HP} {w : World} (f : Fit g (Sl E v xs :: R) w) {i : Nat} (hi : i < xs.length) :
    ∃ b off cap pre post, v = .slice (some ⟨b, off, none⟩) xs.length cap ∧ xs.length ≤ cap ∧ pre.length = off ∧ (cap - xs.length) * E.k ≤ post.length ∧
      Fit g (Blk b E.T (pre ++ (xs.flatMap E.f ++ post)) :: R) w := by
  obtain ⟨h1, h2, j, ha, hr⟩ := f.sat
  rcases ha with ⟨-, e⟩ | ⟨b, off, cap, pre, post, e1, e2, e3, e4, hp⟩
  · subst e; simp at hi
  · exact ⟨b, off, cap, pre, post, e1, e2, e3, e4, f.os, f.tape, f.output, f.dr, h1, h2, j, hp, hr⟩

theorem sl_cell {α : Type} {E : Enc α} {pre post : List Value} {xs : List α} {i o : Nat} {x : α} (hi : xs[i]? = some x) (ho : o < E.k) : (pre ++ (xs.flatMap E.f ++ post))[pre.length + (i * E.k + o)]? = (E.f x)[o]? := by
  rw [List.getElem?_append_right (by omega), Nat.add_sub_cancel_left]
  have hlt : i < xs.length := by
    rcases Nat.lt_or_ge i xs.length with h | h
    · exact h
    · simp [List.getElem?_eq_none h] at hi
  have : i * E.k + o < (xs.flatMap E.f).length := by
    rw [flat_len]
    have : (i + 1) * E.k ≤ xs.length * E.k := Nat.mul_le_mul_right _ hlt
    rw [Nat.succ_mul] at this; omega
  rw [List.getElem?_append_left this, flat_get E xs i o x hi ho]

theorem add_off (b off m : Nat) : Addr.add ⟨b, off, none⟩ m = ⟨b, off + m, none⟩ := by
  unfold Addr.add; by_cases e : m = 0 <;> simp [e]

/-- v can be read as the slice xs -/
class Rd (L : List HP) (v : Value) (α : outParam Type) (E : outParam (Enc α)) (xs : outParam (List α)) : Prop where
  out : ∀ h, Sat L h → (v = .slice none 0 0 ∧ xs = []) ∨ ∃ b off cap, v = .slice (some ⟨b, off, none⟩) xs.length cap ∧ xs.length ≤ cap ∧
    ∀ j u, (xs.flatMap E.f)[j]? = some u → ∃ c T fr, h b = some (.cells c T fr) ∧ c[off + j]? = some u

theorem sl_rd {α : Type} {E : Enc α} {v : Value} {xs : List α} {R : List HP} {h : Frag} (s : Sat (Sl E v xs :: R) h) :
    (v = .slice none 0 0 ∧ xs = []) ∨ ∃ b off cap, v = .slice (some ⟨b, off, none⟩) xs.length cap ∧ xs.length ≤ cap ∧
      ∀ j u, (xs.flatMap E.f)[j]? = some u → ∃ c T fr, h b = some (.cells c T fr) ∧ c[off + j]? = some u := by
  obtain ⟨h1, h2, jn, ha, hr⟩ := s
  rcases ha with ⟨e, e'⟩ | ⟨b, off, cap, pre, post, e1, e2, e3, e4, hp⟩
  · exact .inl ⟨e, e'⟩
  · refine .inr ⟨b, off, cap, e1, e2, fun j u hu => ⟨_, _, _, jn.sub_left _ _ hp.1, ?_⟩⟩
    simp only [List.getElem?_toArray]
    rw [← e3, List.getElem?_append_right (by omega), Nat.add_sub_cancel_left]
    have : j < (xs.flatMap E.f).length := by
      rcases Nat.lt_or_ge j (xs.flatMap E.f).length with h | h
      · exact h
      · rw [List.getElem?_eq_none h] at hu; cases hu
    rw [List.getElem?_append_left this, hu]

instance (priority := high) Rd.sl (L R : List HP) (v : Value) (α : Type) (E : Enc α) (xs : List α) [m : HasSl L v α E xs R] : Rd L v α E xs := ⟨fun h hs => sl_rd (m.out h hs)⟩

theorem rd_open {α : Type} {E : Enc α} {g : Gl} {v : Value} {xs : List α} {L : List HP} {w : World} (f : Fit g L w) [m : Rd L v α E xs] {i : Nat} (hi : i < xs.length) :
    ∃ b off cap, v = .slice (some ⟨b, off, none⟩) xs.length cap ∧ ∀ j u, (xs.flatMap E.f)[j]? = some u → w.cell? ⟨b, off + j, none⟩ = some u := by
  rcases m.out _ f.sat with ⟨-, e⟩ | ⟨b, off, cap, e1, -, e2⟩
  · subst e; simp at hi
  · refine ⟨b, off, cap, e1, fun j u hu => ?_⟩
    obtain ⟨c, T, fr, hb, hc⟩ := e2 j u hu
    simp only [frag] at hb
    simp [World.cell?, hb, hc]

theorem lt_of_get {α : Type} {xs : List α} {i : Nat} {y : α} (hi : xs[i]? = some y) : i < xs.length := by
  rcases Nat.lt_or_ge i xs.length with h | h
  · exact h
  · simp [List.getElem?_eq_none h] at hi

section
variable {P : Program} {g : Gl} {n : Nat} {env : Env} {L M : List HP} {Q : Exit → Act → World → Prop} {lops l : List Oper} {o : Oper} {d : Nat} {v : Value}
variable {dst : Option Tmp} {ty : TypeId} {pos : String} {af : Array Edge} {gd : Option (Nat × Bool)}
variable {α : Type} {E : Enc α} {s : Value} {xs : List α} {R : List HP}

theorem po_iaddr {t : TypeId} {x ix : Operand} {kk : IntKind} {i : Int} (hx : env.ev x = some s) (hi : env.ev ix = some (.int kk i)) [m : Rd L s α E xs] (ht : sliceB P t E.T E.k = true) (h0 : 0 ≤ i) (h1 : i < xs.length) :
    PO P g n env L ⟨dst, .indexAddr t x ix, ty, pos, af, gd⟩ (ead s i.toNat E.k 0) := by
  intro a w fa fw
  obtain ⟨b, off, cap, e1, -⟩ := rd_open fw (v := s) (E := E) (xs := xs) (i := i.toNat) (by omega)
  obtain ⟨hu, ii, hii, hs⟩ := sliceB_und ht
  subst e1
  simp [execOp, fa.ev hx, fa.ev hi, Instr.indexAt, asIntOf, underlying, hu, h0, h1, Go.sizeOf, typeInfo, hii, hs, ead, add_off]

theorem po_faddr_sl {st : TypeId} {x : Operand} {f off' i k o : Nat} (hx : env.ev x = some (ead s i k o)) [m : Rd L s α E xs] (h1 : i < xs.length) (h : fieldB P st f off' = true) :
    PO P g n env L ⟨dst, .fieldAddr st x f, ty, pos, af, gd⟩ (ead s i k (o + off')) := by
  intro a w fa fw
  obtain ⟨b, off, cap, e1, -⟩ := rd_open fw (v := s) (E := E) (xs := xs) h1
  subst e1
  have := fa.ev hx
  simp only [ead] at this
  simp [execOp, this, run_fieldAt h, ead, add_off, Nat.add_assoc]

theorem po_nil_sl {x : Operand} {i k o : Nat} (hx : env.ev x = some (ead s i k o)) [m : Rd L s α E xs] (h1 : i < xs.length) :
    PO P g n env L ⟨dst, .nilCheck x, ty, pos, af, gd⟩ (ead s i k o) := by
  intro a w fa fw
  obtain ⟨b, off, cap, e1, -⟩ := rd_open fw (v := s) (E := E) (xs := xs) h1
  subst e1
  have := fa.ev hx
  simp only [ead] at this
  simp [execOp, this, ead]

theorem po_load_sl {t : TypeId} {x : Operand} {i o : Nat} {y : α} (hx : env.ev x = some (ead s i E.k o)) [m : Rd L s α E xs] (hi : xs[i]? = some y) (ht : flatB P t = true) (hv : nth (E.f y) o = some v) :
    PO P g n env L ⟨dst, .load t x, ty, pos, af, gd⟩ v := by
  intro a w fa fw
  obtain ⟨b, off, cap, e1, hc⟩ := rd_open fw (v := s) (E := E) (xs := xs) (lt_of_get hi)
  subst e1
  have := fa.ev hx
  simp only [ead] at this
  rw [nth_eq] at hv
  have ho : o < E.k := by rw [← E.len y]; exact lt_of_get hv
  have hc := hc (i * E.k + o) v (by rw [flat_get E xs i o y hi ho, hv])
  simp [execOp, this, Instr.loadAt, Instr.sureAddr, loadVar, isAgg_flat ht, hc]

theorem po_loada_sl {t : TypeId} {x : Operand} {i : Nat} {y : α} (hx : env.ev x = some (ead s i E.k 0)) [m : Rd L s α E xs] (hi : xs[i]? = some y) (ht : aggB P t E.k = true) :
    PO P g n env L ⟨dst, .load t x, ty, pos, af, gd⟩ (.agg (E.f y).toArray) := by
  intro a w fa fw
  obtain ⟨b, off, cap, e1, hc⟩ := rd_open fw (v := s) (E := E) (xs := xs) (lt_of_get hi)
  subst e1
  have := fa.ev hx
  simp only [ead] at this
  have hc := run_loadVar_agg (P := P) (w := w) (b := b) (off := off + (i * E.k + 0)) (vs := E.f y) ht (E.len y) (fun j hj => by
    have h2 : j < E.k := by rw [E.len] at hj; exact hj
    have h3 : (E.f y)[j]? = some (E.f y)[j] := by simp
    rw [h3, Nat.add_assoc]
    exact hc _ _ (by rw [Nat.add_zero, flat_get E xs i j y hi h2, h3]))
  rw [Nat.add_zero] at hc
  simp [execOp, this, Instr.loadAt, Instr.sureAddr, hc]

theorem sl_shut {α : Type} {E : Enc α} {b off cap : Nat} {pre post : List Value} {xs : List α} (e2 : xs.length ≤ cap) (e3 : pre.length = off) (e4 : (cap - xs.length) * E.k ≤ post.length) :
    ∀ h, Pt b (.cells (pre ++ (xs.flatMap E.f ++ post)).toArray E.T (0, 0)) h → Sl E (.slice (some ⟨b, off, none⟩) xs.length cap) xs h :=
  fun _ hp => .inr ⟨b, off, cap, pre, post, rfl, e2, e3, e4, hp⟩

theorem so_store_sl {t : TypeId} {x z : Operand} {i o : Nat} {y y' : α} (hx : env.ev x = some (ead s i E.k o)) (hz : env.ev z = some v) [m : HasSl L s α E xs R] (hi : xs[i]? = some y) (ht : flatB P t = true)
    (ho : o < E.k) (hv : (E.f y).set o v = E.f y') (h1 : v.oneCell' = true) : SO P g n env L ⟨dst, .store t x z, ty, pos, af, gd⟩ (Sl E s (xs.set i y') :: R) := by
  intro a w fa fw
  have hlt : i < xs.length := by
    rcases Nat.lt_or_ge i xs.length with h | h
    · exact h
    · simp [List.getElem?_eq_none h] at hi
  obtain ⟨b, off, cap, pre, post, e1, e2, e3, e4, fw'⟩ := sl_open (fw.mono m.out) hlt
  subst e1
  have := fa.ev hx
  simp only [ead] at this
  have hcell : v.cells = #[v] := by cases v <;> simp [Value.oneCell'] at h1 <;> rfl
  have hlen : off + (i * E.k + o) < (pre ++ (xs.flatMap E.f ++ post)).length := by
    have := sl_cell (pre := pre) (post := post) hi ho
    rw [e3] at this
    have h3 : (E.f y)[o]? = some ((E.f y)[o]'(by rw [E.len]; exact ho)) := by simp
    rw [h3] at this
    rcases Nat.lt_or_ge (off + (i * E.k + o)) (pre ++ (xs.flatMap E.f ++ post)).length with h | h
    · exact h
    · rw [List.getElem?_eq_none h] at this; cases this
  obtain ⟨w', hr, fw2⟩ := run_storeCells (P := P) [v] _ (off + (i * E.k + o)) 0 w fw' (by simp only [List.length_cons, List.length_nil]; omega) (by simpa using h1)
  refine ⟨w', ?_, fw2.mono fun h => sat_head (fun hh hp => ?_)⟩
  · simp [execOp, this, fa.ev hz, Instr.storeAt, Instr.sureAddr, storeVar, size_flat ht, hcell, hr]
  · have e5 : putL (pre ++ (xs.flatMap E.f ++ post)) (off + (i * E.k + o) + 0) [v] = pre ++ ((xs.set i y').flatMap E.f ++ post) := by
      simp only [putL, Nat.add_zero, ← e3]
      rw [List.set_append_right _ _ (by omega), Nat.add_sub_cancel_left, List.set_append_left _ _ (by
        rw [flat_len]
        have : (i + 1) * E.k ≤ xs.length * E.k := Nat.mul_le_mul_right _ hlt
        rw [Nat.succ_mul] at this; omega), flat_set E xs i o y y' v hi ho hv]
    rw [e5] at hp
    have := sl_shut (E := E) (xs := xs.set i y') (cap := cap) (off := off) (by simpa using e2) e3 (by simpa using e4) hh hp
    simpa using this

theorem po_len {x : Operand} {t : TypeId} {tys : List TypeId} (hx : env.ev x = some s) [m : Rd L s α E xs] (ht : sliceB P t E.T E.k = true) :
    PO P g n env L ⟨dst, .call ⟨.builtin .len, #[x], (t :: tys).toArray⟩, ty, pos, af, gd⟩ (.int .i64 xs.length) := by
  intro a w fa fw
  obtain ⟨hu, -⟩ := sliceB_und ht
  have hl : ∃ ad cap, s = .slice ad xs.length cap := by
    rcases m.out _ fw.sat with ⟨e, e'⟩ | ⟨b, off, cap, e1, -⟩
    · subst e e'; exact ⟨none, 0, rfl⟩
    · exact ⟨_, _, e1⟩
  obtain ⟨ad, cap, rfl⟩ := hl
  simp [execOp, resolve, invoke, builtin, Builtin.len_, fa.ev hx, underlying, hu, goInt]

end
end Hd
end
section
namespace Hd
open Go

theorem growBy_le (need : Nat) : ∀ (r c : Nat), Builtin.growBy need r c ≤ max c (2 * need + 256)
  | 0, c => by simp [Builtin.growBy]; omega
  | r + 1, c => by
    simp only [Builtin.growBy]
    split
    · omega
    · have := growBy_le need r (c + (c + 768) / 4)
      omega
theorem nextcap_le (need cap : Nat) (h : cap < need) : Builtin.nextslicecap need cap ≤ 2 * need + 256 := by
  unfold Builtin.nextslicecap
  split
  · omega
  · split
    · omega
    · have := growBy_le need 4 cap; omega

/-- what append needs to know of an element's type -/
def elemB (P : Program) (T k : Nat) (B : Nat) : Bool :=
  match P.info? T with
  | some i => (i.size == k) && (i.bytes == B) && (match i.zero with | some z => z.cells.size == k | none => false)
  | none => false
theorem elemB_spec {P : Program} {T k B : Nat} (h : elemB P T k B = true) : ∃ i z, P.info? T = some i ∧ i.size = k ∧ i.bytes = B ∧ i.zero = some z ∧ z.cells.size = k := by
  unfold elemB at h
  cases e : P.info? T with
  | none => simp [e] at h
  | some i =>
    simp [e] at h
    obtain ⟨⟨h1, h2⟩, h3⟩ := h
    cases ez : i.zero with
    | none => simp [ez] at h3
    | some z => simp [ez] at h3; exact ⟨i, z, rfl, h1, h2, ez, h3⟩

theorem zeroCells_size (z : Array Value) (m : Nat) : (Builtin.zeroCells z m).size = m * z.size := by simp [Builtin.zeroCells]

theorem putL_len : ∀ (vs l : List Value) (off : Nat), (putL l off vs).length = l.length
  | [], _, _ => rfl
  | v :: vs, l, off => by simp [putL, putL_len vs]

theorem putL_mid : ∀ (vs a b c : List Value), vs.length = b.length → putL (a ++ (b ++ c)) a.length vs = a ++ (vs ++ c)
  | [], a, b, c, h => by
    have : b = [] := List.length_eq_zero_iff.1 h.symm
    subst this; rfl
  | v :: vs, a, b, c, h => by
    cases b with
    | nil => simp at h
    | cons x b =>
      simp at h
      simp only [putL]
      have e : (a ++ (x :: b ++ c)).set a.length v = (a ++ [v]) ++ (b ++ c) := by simp
      rw [e]
      have := putL_mid vs (a ++ [v]) b c h
      simp only [List.length_append, List.length_cons, List.length_nil] at this
      rw [this]; simp

theorem run_firstCells {P : Program} {g : Gl} {L : List HP} {w : World} {α : Type} {E : Enc α} {v : Value} {xs : List α} (f : Fit g L w) [m : Rd L v α E xs] :
    (Builtin.firstCells E.k xs.length v).run P w = .ok (xs.flatMap E.f).toArray w := by
  rcases m.out _ f.sat with ⟨e, e'⟩ | ⟨b, off, cap, e1, -, e2⟩
  · subst e e'; simp [Builtin.firstCells]
  · subst e1
    have := run_loadCells (P := P) (w := w) (b := b) (xs.flatMap E.f) off 0 #[] (fun j hj => by
      have h3 : (xs.flatMap E.f)[j]? = some (xs.flatMap E.f)[j] := by simp
      rw [h3, Nat.zero_add]
      obtain ⟨c, T, fr, hb, hc⟩ := e2 j _ h3
      simp only [frag] at hb
      simp [World.cell?, hb, hc])
    rw [flat_len] at this
    simp [Builtin.firstCells, loadCells, this]

theorem rd_len {L : List HP} {g : Gl} {w : World} {α : Type} {E : Enc α} {v : Value} {xs : List α} (f : Fit g L w) [m : Rd L v α E xs] : ∃ ad cap, v = .slice ad xs.length cap := by
  rcases m.out _ f.sat with ⟨e, e'⟩ | ⟨b, off, cap, e1, -⟩
  · subst e e'; exact ⟨none, 0, rfl⟩
  · exact ⟨_, _, e1⟩

section
variable {P : Program} {g : Gl} {n : Nat} {env : Env} {L M : List HP} {Q : Exit → Act → World → Prop} {lops l : List Oper} {o : Oper} {d : Nat} {v : Value}
variable {dst : Option Tmp} {ty : TypeId} {pos : String} {af : Array Edge} {gd : Option (Nat × Bool)}
variable {α : Type} {E : Enc α} {s u : Value} {xs ys : List α} {R : List HP}

theorem xo_append {x y : Operand} {t t2 B : TypeId} (hx : env.ev x = some s) (hy : env.ev y = some u) [m : HasSl L s α E xs R] [m2 : Rd L u α E ys]
    (ht : sliceB P t E.T E.k = true) (ht2 : sliceB P t2 E.T E.k = true) (hE : elemB P E.T E.k B = true) (hB : (2 * (xs.length + ys.length) + 256) * B ≤ 2 ^ 48) (hn : xs.length + ys.length ≤ 9223372036854775807) :
    XO P g n env L ⟨dst, .call ⟨.builtin .append, #[x, y], #[t, t2]⟩, ty, pos, af, gd⟩ (fun v M => M = Sl E v (xs ++ ys) :: R) := by
  intro a w fa fw
  obtain ⟨hu, -⟩ := sliceB_und ht
  obtain ⟨hu2, -⟩ := sliceB_und ht2
  obtain ⟨i, z, hi, hs, hb, hz, hzs⟩ := elemB_spec hE
  have hnew := run_firstCells (P := P) (E := E) (xs := ys) (v := u) fw
  obtain ⟨uad, ucap, hul⟩ := rd_len (E := E) (xs := ys) (v := u) fw
  have hold := run_firstCells (P := P) (E := E) (xs := xs) (v := s) fw
  have fs := fw.mono m.out
  have hund : ∀ w, (underlying t).run P w = .ok (.slice E.T) w := by intro w; simp [underlying, hu]
  have hund2 : ∀ w, (underlying t2).run P w = .ok (.slice E.T) w := by intro w; simp [underlying, hu2]
  have hsz : ∀ w, (Go.sizeOf E.T).run P w = .ok E.k w := by intro w; simp [Go.sizeOf, typeInfo, hi, hs]
  have hti : ∀ w, (typeInfo E.T).run P w = .ok i w := by intro w; simp [typeInfo, hi]
  have hzv : ∀ w, (zeroValue E.T).run P w = .ok z w := by intro w; simp [zeroValue, typeInfo, hi, hz]
  obtain ⟨sad, scap, hsl⟩ := rd_len (E := E) (xs := xs) (v := s) fw
  have hlen : (Builtin.lenOf u).run P w = .ok ys.length w := by subst hul; simp [Builtin.lenOf]
  have hmain : ∃ v M w', (Builtin.append_ #[t, t2] ty #[s, u]).run P w = .ok v w' ∧ M = Sl E v (xs ++ ys) :: R ∧ Fit g M w' := by
    by_cases hneed : xs.length + ys.length ≤ scap
    · -- room
      obtain ⟨h1, h2, j, ha, hr⟩ := fs.sat
      rcases ha with ⟨e, e'⟩ | ⟨b, off, cap, pre, post, e1, e2, e3, e4, hp⟩
      · subst e e'
        obtain ⟨-, -, rfl⟩ := Value.slice.inj hsl
        have hy0 : ys = [] := by
          cases ys with
          | nil => rfl
          | cons y ys => simp at hneed
        subst hy0
        refine ⟨.slice none 0 0, _, w, ?_, rfl, fs⟩
        simp only [List.length_nil, List.flatMap_nil] at hnew hlen
        simp [Builtin.append_, hund, hund2, hsz, hlen, hnew]
      · subst e1
        obtain ⟨-, -, hcap⟩ := Value.slice.inj hsl
        subst hcap
        have fb : Fit g (Blk b E.T (pre ++ (xs.flatMap E.f ++ post)) :: R) w := ⟨fs.os, fs.tape, fs.output, fs.dr, h1, h2, j, hp, hr⟩
        have hpl : ys.length * E.k ≤ post.length := Nat.le_trans (Nat.mul_le_mul_right _ (by omega)) e4
        obtain ⟨post1, post2, hpost, hpl1⟩ : ∃ p1 p2, post = p1 ++ p2 ∧ p1.length = (ys.flatMap E.f).length :=
          ⟨post.take (ys.length * E.k), post.drop (ys.length * E.k), by simp, by rw [flat_len]; simp; omega⟩
        obtain ⟨w', hr', fw2⟩ := run_storeCells (P := P) (ys.flatMap E.f) _ (off + xs.length * E.k) 0 w fb (by
            simp only [List.length_append, flat_len, e3]; omega) (by
            intro v hv; obtain ⟨y, -, hy⟩ := List.mem_flatMap.1 hv; exact E.one y v hy)
        refine ⟨.slice (some ⟨b, off, none⟩) (xs.length + ys.length) cap, _, w', ?_, rfl, fw2.mono fun h => sat_head fun hh hpt => ?_⟩
        · simp [Builtin.append_, hund, hund2, hsz, hlen, hnew, hneed, add_off, hr']
        · have e5 : putL (pre ++ (xs.flatMap E.f ++ post)) (off + xs.length * E.k + 0) (ys.flatMap E.f) = pre ++ ((xs ++ ys).flatMap E.f ++ post2) := by
            have := putL_mid (ys.flatMap E.f) (pre ++ xs.flatMap E.f) post1 post2 hpl1.symm
            rw [hpost]
            simp only [List.length_append, flat_len, e3, Nat.add_zero, List.append_assoc] at this ⊢
            rw [this]; simp
          rw [e5] at hpt
          have := sl_shut (E := E) (b := b) (xs := xs ++ ys) (cap := cap) (off := off) (pre := pre) (post := post2) (by simp; omega) e3 (by
            have h1 : post.length = ys.length * E.k + post2.length := by rw [hpost]; rw [List.length_append, hpl1, flat_len]
            have h2 : (cap - xs.length) * E.k = (cap - (xs ++ ys).length) * E.k + ys.length * E.k := by
              rw [← Nat.add_mul]; congr 1; simp; omega
            omega) hh hpt
          simpa using this
    · -- it grows
      have hcap : scap < xs.length + ys.length := by omega
      have hg := nextcap_le _ _ hcap
      have hg2 : ¬ (Builtin.nextslicecap (xs.length + ys.length) scap * i.bytes > 2 ^ 48) := by
        rw [hb]
        have : Builtin.nextslicecap (xs.length + ys.length) scap * B ≤ (2 * (xs.length + ys.length) + 256) * B := Nat.mul_le_mul_right _ hg
        omega
      have hbig : ¬ (9223372036854775807 < (xs.length : Int) + (ys.length : Int)) := by omega
      have hq : ∃ c, (xs.length + ys.length) ≤ c ∧ Question.cut (.appendCap (xs.length + ys.length) scap E.T) (w.tape w.drawn (.appendCap (xs.length + ys.length) scap E.T)) = c := ⟨_, by simp [Question.cut], rfl⟩
      obtain ⟨nc, hnc, hq⟩ := hq
      have f1 : Fit g L w.drew := ⟨fw.os, fw.tape, fw.output, Nat.le_trans fw.dr (Nat.le_succ _), fw.sat⟩
      have hnew1 := run_firstCells (P := P) (E := E) (xs := ys) (v := u) f1
      have hold1 := run_firstCells (P := P) (E := E) (xs := xs) (v := s) f1
      have fr : Fit g R w.drew := (f1.mono m.out).mono fun _ => sat_drop
      refine ⟨.slice (some ⟨w.heap.size, 0, none⟩) (xs.length + ys.length) nc, _, _, ?_, rfl,
        (fr.push (.cells ((xs.flatMap E.f).toArray ++ (ys.flatMap E.f).toArray ++ Builtin.zeroCells z.cells (nc - (xs.length + ys.length))) E.T (0, 0))).mono fun h => sat_head fun hh hpt => ?_⟩
      · subst hsl
        simp [Builtin.append_, hund, hund2, hsz, hlen, hneed, hti, hbig, hg2, hq, hnew1, hold1, hzv, newRow, Question.forced]
        have e6 : ∀ (A B : List Value) (Z : Array Value), (A.toArray ++ (B.toArray ++ Z)) = (A ++ B).toArray ++ Z := fun A B Z => Array.ext' (by simp)
        rw [e6]; rfl
      · have e5 : ((xs.flatMap E.f).toArray ++ (ys.flatMap E.f).toArray ++ Builtin.zeroCells z.cells (nc - (xs.length + ys.length))) = ([] ++ ((xs ++ ys).flatMap E.f ++ (Builtin.zeroCells z.cells (nc - (xs.length + ys.length))).toList)).toArray := by
          apply Array.ext'; simp
        rw [e5] at hpt
        have := sl_shut (E := E) (b := w.heap.size) (xs := xs ++ ys) (cap := nc) (off := 0) (pre := []) (post := (Builtin.zeroCells z.cells (nc - (xs.length + ys.length))).toList) (by simpa using hnc) rfl (by
          simp [zeroCells_size, hzs]) hh hpt
        simpa using this
  obtain ⟨v, M, w', hr, hM, fM⟩ := hmain
  refine ⟨v, M, w', ?_, hM, fM⟩
  simp [execOp, resolve, invoke, builtin, fa.ev hx, fa.ev hy, hr]

end
end Hd
end
section
namespace Hd
open Go

def intB (P : Program) (t : TypeId) (k : IntKind) : Bool :=
  match P.underlying t with
  | some (.int k') => k == k'
  | _ => false
theorem intB_spec {P : Program} {t : TypeId} {k : IntKind} (h : intB P t k = true) : P.underlying t = some (.int k) := by
  unfold intB at h
  cases e : P.underlying t with
  | none => simp [e] at h
  | some d => cases d <;> simp [e] at h; rw [h]

/-- elements all of which are zero -/
theorem flat_rep {α : Type} (E : Enc α) (z : α) : ∀ n, (List.replicate n z).flatMap E.f = (List.replicate n (E.f z)).flatten
  | 0 => by simp
  | n + 1 => by simp [List.replicate_succ, flat_rep E z n]

theorem rep_get {l : List Value} (hl : 0 < l.length) : ∀ (n i : Nat), i < n * l.length → ((List.replicate n l).flatten)[i]? = l[i % l.length]?
  | 0, i, h => by simp at h
  | n + 1, i, h => by
    simp only [List.replicate_succ, List.flatten_cons]
    by_cases hi : i < l.length
    · rw [List.getElem?_append_left hi, Nat.mod_eq_of_lt hi]
    · rw [List.getElem?_append_right (by omega)]
      rw [Nat.succ_mul] at h
      rw [rep_get hl n (i - l.length) (by omega)]
      congr 1
      conv => rhs; rw [show i = (i - l.length) + l.length from by omega]
      simp

theorem zero_row {α : Type} (E : Enc α) (z : α) (zv : Value) (hz : zv.cells = (E.f z).toArray) (n : Nat) :
    ((Array.range (n * E.k)).map (fun i => zv.cells[i % zv.cells.size]!)) = ((List.replicate n z).flatMap E.f).toArray := by
  apply Array.ext'
  simp only [Array.toList_map, Array.toList_range]
  rw [flat_rep]
  apply List.ext_getElem?
  intro i
  have hl : (E.f z).length = E.k := E.len z
  have hpos : 0 < (E.f z).length := by rw [hl]; exact E.pos
  by_cases hi : i < n * E.k
  · rw [rep_get hpos n i (by rw [hl]; exact hi)]
    simp only [List.getElem?_map, List.getElem?_range hi, Option.map_some, hz, List.size_toArray]
    have : i % (E.f z).length < (E.f z).length := Nat.mod_lt _ hpos
    simp [this]
  · rw [List.getElem?_eq_none (by simp; omega), List.getElem?_eq_none (by simp [hl]; omega)]

section
variable {P : Program} {g : Gl} {n : Nat} {env : Env} {L M : List HP} {Q : Exit → Act → World → Prop} {lops l : List Oper} {o : Oper} {d : Nat} {v : Value}
variable {dst : Option Tmp} {ty : TypeId} {pos : String} {af : Array Edge} {gd : Option (Nat × Bool)}
variable {α : Type} {E : Enc α} {s u : Value} {xs ys : List α} {R : List HP}

theorem xo_make (E : Enc α) (z : α) {t B : TypeId} {x y : Operand} {k k' : IntKind} {m : Int} {zs : List Value} (hx : env.ev x = some (.int k m)) (hy : env.ev y = some (.int k' m)) (ht : sliceB P t E.T E.k = true) (hE : elemB P E.T E.k B = true)
    (hz : zeroB P E.T = some zs) (hzs : zs = E.f z) (h0 : 0 ≤ m) (h1 : m ≤ 9223372036854775807) (hB : B * m ≤ 2 ^ 47) :
    XO P g n env L ⟨dst, .makeSlice t x y, ty, pos, af, gd⟩ (fun v M => M = Sl E v (List.replicate m.toNat z) :: L) := by
  intro a w fa fw
  obtain ⟨hu, -⟩ := sliceB_und ht
  obtain ⟨i, zv, hi, hs, hb, hzv, hzvs⟩ := elemB_spec hE
  obtain ⟨zv', hzr, hzc⟩ := run_zero (w := w) hz
  have hzz : zv' = zv := by
    simp [zeroValue, typeInfo, hi, hzv] at hzr; exact hzr.symm
  subst hzz
  have hund : ∀ w, (underlying t).run P w = .ok (.slice E.T) w := by intro w; simp [underlying, hu]
  have hsz : ∀ w, (Go.sizeOf E.T).run P w = .ok E.k w := by intro w; simp [Go.sizeOf, typeInfo, hi, hs]
  have hti : ∀ w, (typeInfo E.T).run P w = .ok i w := by intro w; simp [typeInfo, hi]
  have hw : IntKind.i64.wrap m = m := wrap_i64 m (by omega) h1
  have c1 : ¬ (m < 0) := by omega
  have c2 : ¬ (((i.bytes : Nat) : Int) * m > 2 ^ 48) := by rw [hb]; omega
  have hrun : (Instr.makeSlice t (.int k m) (.int k' m)).run P w = .ok (.slice (some ⟨w.heap.size, 0, none⟩) m.toNat m.toNat) (w.alloc (.cells ((List.replicate m.toNat z).flatMap E.f).toArray E.T (0, 0))) := by
    by_cases hm : m.toNat * E.k = 0
    · have hm0 : m.toNat = 0 := by
        rcases Nat.mul_eq_zero.1 hm with h | h
        · exact h
        · have := E.pos; omega
      have hmz : m = 0 := by omega
      subst hmz
      have e0 : Array.range 0 = #[] := rfl
      simp [Instr.makeSlice, hund, asInt, asIntOf, hti, hw, hsz, newRow, e0]
    · have hrow := zero_row E z zv' (by rw [hzc, hzs]) m.toNat
      simp only [Instr.makeSlice, hund, asInt, asIntOf, hti, hw, hsz, Sem.run_bind, Result.andThen_ok, Sem.run_pure, c1, c2, decide_false, Bool.false_or, Bool.or_false, Int.lt_irrefl, gt_iff_lt, Bool.false_eq_true, if_false, run_askRoom, hm, hzr, newRow, run_newObj, hrow]
      rfl
  refine ⟨.slice (some ⟨w.heap.size, 0, none⟩) m.toNat m.toNat, _, _, ?_, rfl, (fw.push (.cells ((List.replicate m.toNat z).flatMap E.f).toArray E.T (0, 0))).mono fun h => sat_head fun hh hpt => ?_⟩
  · simp [execOp, fa.ev hx, fa.ev hy, hrun]
  · have := sl_shut (E := E) (b := w.heap.size) (xs := List.replicate m.toNat z) (cap := m.toNat) (off := 0) (pre := []) (post := []) (by simp) rfl (by simp) hh (by simpa using hpt)
    simpa using this

theorem po_conv {x : Operand} {k k' : IntKind} {m : Int} {t t2 : TypeId} (hx : env.ev x = some (.int k m)) (h1 : intB P t k = true) (h2 : intB P t2 k' = true) : PO P g n env L ⟨dst, .convert t t2 x, ty, pos, af, gd⟩ (.int k' (k'.wrap m)) := by
  intro a w fa fw
  simp [execOp, fa.ev hx, convert, underlying, intB_spec h1, intB_spec h2, Conv.intToInt]

theorem po_min {x y : Operand} {k : IntKind} {p q : Int} {tys : Array TypeId} (hx : env.ev x = some (.int k p)) (hy : env.ev y = some (.int k q)) : PO P g n env L ⟨dst, .call ⟨.builtin .min, #[x, y], tys⟩, ty, pos, af, gd⟩ (.int k (if q < p then q else p)) := by
  intro a w fa fw
  simp [execOp, resolve, invoke, builtin, Builtin.min_, fa.ev hx, fa.ev hy, Builtin.min2]
theorem po_max {x y : Operand} {k : IntKind} {p q : Int} {tys : Array TypeId} (hx : env.ev x = some (.int k p)) (hy : env.ev y = some (.int k q)) : PO P g n env L ⟨dst, .call ⟨.builtin .max, #[x, y], tys⟩, ty, pos, af, gd⟩ (.int k (if p < q then q else p)) := by
  intro a w fa fw
  simp [execOp, resolve, invoke, builtin, Builtin.max_, fa.ev hx, fa.ev hy, Builtin.max2]

end
end Hd
end
section
namespace Hd
open Go

section
variable {P : Program} {ops : Array Oper} {Q : Exit → Act → World → Prop} {md : Region.Mode}

/-- no late one has come up, and i is none -/
def early (late : List Nat) (listed : Array Bool) (i : Nat) : Bool := (late.all fun t => !listed.getD t false) && !late.contains i

/-- whatever order is picked: S0 holds behind every operation, S till a late one comes up -/
def wpAnyT (P : Program) (md : Region.Mode) (ops : Array Oper) (Q : Exit → Act → World → Prop) (late : List Nat) (S0 S : World → Prop) : Nat → Array Bool → Act → World → Prop
  | 0, listed, a, w => Region.ready md ops listed = [] ∧ Q .normal a w
  | fuel + 1, listed, a, w =>
    (Region.ready md ops listed = [] → Q .normal a w) ∧
    ∀ i ∈ Region.ready md ops listed, wpOp P ops Q i (fun a' w' => (S0 w' ∧ (early late listed i = true → S w')) ∧ wpAnyT P md ops Q late S0 S fuel (listed.setIfInBounds i true) a' w') a w

theorem wpAny_of_T {late : List Nat} {S0 S : World → Prop} : ∀ (fuel : Nat) (listed : Array Bool) (a : Act) (w : World), wpAnyT P md ops Q late S0 S fuel listed a w → wpAny P md ops Q fuel listed a w
  | 0, _, _, _, h => h
  | fuel + 1, _, _, _, h => ⟨h.1, fun i hi => wpOp_mono (fun a' w' h' => wpAny_of_T fuel _ a' w' h'.2) (h.2 i hi)⟩

/-- t waits for i, be it through others -/
def waitsT (md : Region.Mode) (ops : Array Oper) : Nat → Nat → Nat → Bool
  | 0, _, _ => false
  | f + 1, t, i => match ops[t]? with
    | some o => o.after.any fun e => Region.binds md e && (e.on == i || waitsT md ops f e.on i)
    | none => false

def Closed (md : Region.Mode) (ops : Array Oper) (listed : Array Bool) : Prop :=
  ∀ j oj, ops[j]? = some oj → listed.getD j false = true → ∀ e ∈ oj.after, Region.binds md e = true → listed.getD e.on false = true

theorem waitsT_listed {listed : Array Bool} (hc : Closed md ops listed) : ∀ (f t i : Nat), waitsT md ops f t i = true →
    (∀ o, ops[t]? = some o → ∀ e ∈ o.after, Region.binds md e = true → listed.getD e.on false = true) → listed.getD i false = true
  | 0, _, _, h, _ => by simp [waitsT] at h
  | f + 1, t, i, h, ha => by
    simp only [waitsT] at h
    cases ho : ops[t]? with
    | none => simp [ho] at h
    | some o =>
      simp only [ho] at h
      obtain ⟨e, he, hb⟩ := Array.any_eq_true'.1 h
      simp only [Bool.and_eq_true, Bool.or_eq_true, beq_iff_eq] at hb
      have hl := ha o ho e he hb.1
      rcases hb.2 with h1 | h1
      · rw [← h1]; exact hl
      · exact waitsT_listed hc f e.on i h1 (fun o' ho' => hc e.on o' ho' hl)

theorem Closed.set {listed : Array Bool} {j : Nat} (hc : Closed md ops listed) (hj : j ∈ Region.ready md ops listed) : Closed md ops (listed.setIfInBounds j true) := by
  obtain ⟨-, o, ho, hall⟩ := mem_ready.1 hj
  intro k ok hk hl e he hb
  by_cases hjk : j = k
  · subst hjk
    have : ok = o := Option.some.inj (hk.symm.trans ho)
    subst this
    exact getD_set_true (hall e he hb)
  · rw [getD_set_ne false hjk] at hl
    exact getD_set_true (hc k ok hk hl e he hb)

theorem getD_ff {listed : Array Bool} {i : Nat} (h : listed.getD i true = false) : listed.getD i false = false := by
  rcases Nat.lt_or_ge i listed.size with h' | h'
  · simp [h'] at h ⊢; exact h
  · simp [Array.getElem?_eq_none h'] at h

theorem early_set {late : List Nat} {listed : Array Bool} {i j : Nat} (hi : late.contains i = false) (h : early late (listed.setIfInBounds j true) i = true) (hj : j < listed.size) : early late listed i = true ∧ early late (listed.setIfInBounds i true) j = true := by
  simp only [early, Bool.and_eq_true, List.all_eq_true, Bool.not_eq_true'] at h ⊢
  obtain ⟨h1, h2⟩ := h
  have hl : ∀ t ∈ late, listed.getD t false = false := fun t ht => by
    cases e : listed.getD t false with
    | false => rfl
    | true => have := h1 t ht; rw [getD_set_true e] at this; cases this
  have hjl : late.contains j = false := by
    cases e : late.contains j with
    | false => rfl
    | true =>
      have := h1 j (by simpa using e)
      simp [hj] at this
  refine ⟨⟨hl, h2⟩, fun t ht => ?_, hjl⟩
  by_cases hti : i = t
  · subst hti
    have : late.contains i = true := by simpa using ht
    rw [hi] at this; cases this
  · rw [getD_set_ne false hti]; exact hl t ht

theorem wpAnyT_first {late : List Nat} {S0 S Sx : World → Prop} {i : Nat} {oi : Oper} {v : Value} (hi : ops[i]? = some oi) (hsel : ∀ (j : Nat) (o : Oper) cs b, ops[j]? = some o → o.op ≠ .select cs b)
    (hQ : ∀ c a w, Q (.panic c) (a.put oi.dst v) w → Q (.panic c) a w) (hil : late.contains i = false)
    (hx : (Sx = S ∧ ∀ j, late.contains j = true → waitsT md ops ops.size j i = true) ∨ Sx = S0) :
    ∀ (fuel : Nat) (listed : Array Bool) (a : Act) (w : World), Closed md ops listed → listed.size = ops.size →
      (∀ j oj, ops[j]? = some oj → j ≠ i → listed.getD j true = false → (∀ e ∈ oj.after, Region.binds md e = true → e.on ≠ i) → oi.apart ops oj = true) →
      i ∈ Region.ready md ops listed → YieldsIf P ops Sx oi v a → Sx w → (S0 w ∧ (early late listed i = true → S w)) →
      wpAnyT P md ops Q late S0 S fuel (listed.setIfInBounds i true) (a.put oi.dst v) w → wpAnyT P md ops Q late S0 S (fuel + 1) listed a w := by
  intro fuel
  induction fuel with
  | zero =>
    intro listed a w _ _ _ hr hy hS hS' H
    refine ⟨fun h => (by rw [h] at hr; cases hr), fun j hj => ?_⟩
    by_cases hji : j = i
    · subst hji; exact hy.wpOp hi hS ⟨hS', H⟩
    · have := ready_mono hj hji
      rw [H.1] at this
      cases this
  | succ fuel ih =>
    intro listed a w hc hsz hfree hr hy hS hS' H
    refine ⟨fun h => (by rw [h] at hr; cases hr), fun j hj => ?_⟩
    by_cases hji : j = i
    · subst hji; exact hy.wpOp hi hS ⟨hS', H⟩
    · have h1 := H.2 j (ready_mono hj hji)
      obtain ⟨hjun, oj, hoj, hall⟩ := mem_ready.1 hj
      have hiun : listed.getD i false = false := getD_ff (mem_ready.1 hr).1
      have hnot : ∀ e ∈ oj.after, Region.binds md e = true → e.on ≠ i := fun e he hb heq => by
        have h1 := hall e he hb
        rw [heq, hiun] at h1; cases h1
      have h2 := wpOp_putIf hoj (hfree j oj hoj hji hjun hnot) (fun cs b => hsel i oi cs b hi) (fun cs b => hsel j oj cs b hoj) hQ hy h1
      have hfree' : ∀ k ok, ops[k]? = some ok → k ≠ i → (listed.setIfInBounds j true).getD k true = false →
          (∀ e ∈ ok.after, Region.binds md e = true → e.on ≠ i) → oi.apart ops ok = true := fun k ok hk hki hun hno => by
        refine hfree k ok hk hki ?_ hno
        by_cases hjk : j = k
        · subst hjk; exact hjun
        · rw [getD_set_ne true hjk] at hun; exact hun
      have hjlt : j < listed.size := by rw [hsz]; exact (Array.getElem?_eq_some_iff.1 hoj).1
      refine wpOp_mono (fun a' w' h3 => ?_) h2
      obtain ⟨hy3, ⟨hs0, hs⟩, h4⟩ := h3
      have hsx : Sx w' := by
        rcases hx with ⟨rfl, hw⟩ | rfl
        · refine hs ?_
          simp only [early, Bool.and_eq_true, List.all_eq_true, Bool.not_eq_true']
          have hno : ∀ t ∈ late, listed.getD t false = false := fun t ht => by
            cases e : listed.getD t false with
            | false => rfl
            | true =>
              cases hot : ops[t]? with
              | none =>
                have : ops.size ≤ t := by
                  rcases Nat.lt_or_ge t ops.size with h | h
                  · simp [Array.getElem?_eq_getElem h] at hot
                  · exact h
                rw [← hsz] at this
                simp [Array.getElem?_eq_none this] at e
              | some ot =>
                have := waitsT_listed hc _ _ _ (hw t (by simpa using ht)) (fun o ho => hc t o ho e)
                rw [hiun] at this; cases this
          refine ⟨fun t ht => ?_, ?_⟩
          · by_cases hti : i = t
            · subst hti
              have : late.contains i = true := by simpa using ht
              rw [hil] at this; cases this
            · rw [getD_set_ne false hti]; exact hno t ht
          · cases hl : late.contains j with
            | false => rfl
            | true =>
              have := waitsT_listed hc _ _ _ (hw j hl) (fun o ho e he hb => by
                have : o = oj := Option.some.inj (ho.symm.trans hoj)
                subst this; exact hall e he hb)
              rw [hiun] at this; cases this
        · exact hs0
      refine ⟨⟨hs0, fun he => hs ?_⟩, ih (listed.setIfInBounds j true) a' w' (hc.set hj) (by simpa using hsz) hfree' (ready_mono hr (Ne.symm hji)) hy3 hsx ⟨hs0, fun he => hs (early_set hil he hjlt).2⟩ ?_⟩
      · simp only [early, Bool.and_eq_true, List.all_eq_true, Bool.not_eq_true'] at he ⊢
        refine ⟨fun t ht => ?_, he.2⟩
        by_cases hti : i = t
        · subst hti
          have : late.contains i = true := by simpa using ht
          rw [hil] at this; cases this
        · rw [getD_set_ne false hti]; exact he.1 t ht
      rw [Array.setIfInBounds_comm _ _ hji]
      exact h4

/-! ## a region in an order of one's own -/
/-- (i, 0): taken, it reads; (i, 1): taken, it reads nothing; (i, 2): nothing else may come up -/
def okOrd (ops : Array Oper) (late : List Nat) : List (Nat × Nat) → Array Bool → Bool
  | [], listed => (Region.ready .any ops listed).isEmpty
  | (i, 0) :: r, listed => (Region.ready .any ops listed).contains i && Region.free .any ops listed i && !late.contains i && (late.all fun t => waitsT .any ops ops.size t i) && okOrd ops late r (listed.setIfInBounds i true)
  | (i, 1) :: r, listed => (Region.ready .any ops listed).contains i && Region.free .any ops listed i && !late.contains i && okOrd ops late r (listed.setIfInBounds i true)
  | (i, _) :: r, listed => (Region.ready .any ops listed == [i]) && okOrd ops late r (listed.setIfInBounds i true)

def seqT (P : Program) (ops : Array Oper) (Q : Exit → Act → World → Prop) (late : List Nat) (S0 S : World → Prop) : List (Nat × Nat) → Array Bool → Act → World → Prop
  | [], _, a, w => Q .normal a w
  | (i, 0) :: r, listed, a, w => ∃ o v, ops[i]? = some o ∧ YieldsIf P ops S o v a ∧ S w ∧ seqT P ops Q late S0 S r (listed.setIfInBounds i true) (a.put o.dst v) w
  | (i, 1) :: r, listed, a, w => ∃ o v, ops[i]? = some o ∧ YieldsIf P ops S0 o v a ∧ seqT P ops Q late S0 S r (listed.setIfInBounds i true) (a.put o.dst v) w
  | (i, _) :: r, listed, a, w => wpOp P ops Q i (fun a' w' => (S0 w' ∧ (early late listed i = true → S w')) ∧ seqT P ops Q late S0 S r (listed.setIfInBounds i true) a' w') a w

theorem early_sub {late : List Nat} {listed : Array Bool} {i k : Nat} (h : early late (listed.setIfInBounds i true) k = true) (hs : i < listed.size) : early late listed i = true := by
  simp only [early, Bool.and_eq_true, List.all_eq_true, Bool.not_eq_true'] at h ⊢
  refine ⟨fun t ht => ?_, ?_⟩
  · cases e : listed.getD t false with
    | false => rfl
    | true => have := h.1 t ht; rw [getD_set_true e] at this; cases this
  · cases e : late.contains i with
    | false => rfl
    | true => have := h.1 i (by simpa using e); simp [hs] at this

theorem wpAnyT_of_seq {late : List Nat} {S0 S : World → Prop} (hs : Region.noSelect ops = true) (hQ : ∀ c a d v w, Q (.panic c) (Act.put a d v) w → Q (.panic c) a w) :
    ∀ (r : List (Nat × Nat)) (listed : Array Bool) (a : Act) (w : World), okOrd ops late r listed = true → Closed .any ops listed → listed.size = ops.size → (S0 w ∧ ∀ i, early late listed i = true → S w) →
      seqT P ops Q late S0 S r listed a w → wpAnyT P .any ops Q late S0 S r.length listed a w
  | [], listed, a, w, hB, _, _, _, h => ⟨by simpa [okOrd] using hB, h⟩
  | (i, 0) :: r, listed, a, w, hB, hc, hz, hw, h => by
    simp only [okOrd, Bool.and_eq_true, Bool.not_eq_true'] at hB
    obtain ⟨⟨⟨⟨hr, hf⟩, hl⟩, hwt⟩, hB'⟩ := hB
    obtain ⟨o, v, ho, hy, hS, h'⟩ := h
    have hri : i ∈ Region.ready .any ops listed := by simpa using hr
    have hlt : i < listed.size := by rw [hz]; exact (Array.getElem?_eq_some_iff.1 ho).1
    refine wpAnyT_first ho (Region.noSelect_spec hs) (fun c a w => hQ c a _ v w) hl (.inl ⟨rfl, fun j hj => ?_⟩) r.length listed a w hc hz (Region.free_spec ho hf) hri hy hS ⟨hw.1, hw.2 i⟩
      (wpAnyT_of_seq hs hQ r _ _ w hB' (hc.set hri) (by simpa using hz) ⟨hw.1, fun k hk => hw.2 i (early_sub hk hlt)⟩ h')
    have := List.all_eq_true.1 hwt j (by simpa using hj)
    simpa using this
  | (i, 1) :: r, listed, a, w, hB, hc, hz, hw, h => by
    simp only [okOrd, Bool.and_eq_true, Bool.not_eq_true'] at hB
    obtain ⟨⟨⟨hr, hf⟩, hl⟩, hB'⟩ := hB
    obtain ⟨o, v, ho, hy, h'⟩ := h
    have hri : i ∈ Region.ready .any ops listed := by simpa using hr
    have hlt : i < listed.size := by rw [hz]; exact (Array.getElem?_eq_some_iff.1 ho).1
    exact wpAnyT_first ho (Region.noSelect_spec hs) (fun c a w => hQ c a _ v w) hl (.inr rfl) r.length listed a w hc hz (Region.free_spec ho hf) hri hy hw.1 ⟨hw.1, hw.2 i⟩
      (wpAnyT_of_seq hs hQ r _ _ w hB' (hc.set hri) (by simpa using hz) ⟨hw.1, fun k hk => hw.2 i (early_sub hk hlt)⟩ h')
  | (i, m + 2) :: r, listed, a, w, hB, hc, hz, hw, h => by
    simp only [okOrd, Bool.and_eq_true, beq_iff_eq] at hB
    obtain ⟨hr, hB'⟩ := hB
    have hri : i ∈ Region.ready .any ops listed := by rw [hr]; simp
    refine ⟨fun h0 => (by rw [h0] at hr; cases hr), fun j hj => ?_⟩
    rw [hr] at hj
    have : j = i := by simpa using hj
    subst this
    obtain ⟨-, o, ho, -⟩ := mem_ready.1 hri
    have hlt : j < listed.size := by rw [hz]; exact (Array.getElem?_eq_some_iff.1 ho).1
    refine wpOp_mono (fun a' w' h3 => ⟨h3.1, wpAnyT_of_seq hs hQ r _ a' w' hB' (hc.set hri) (by simpa using hz) ⟨h3.1.1, fun k hk => h3.1.2 (early_sub hk hlt)⟩ h3.2⟩) h

theorem closed_start (ops : Array Oper) : Closed .any ops (Array.replicate ops.size false) := by
  intro j oj _ hl
  rcases Nat.lt_or_ge j ops.size with h | h
  · simp [h] at hl
  · simp [h] at hl

def okStart (ops : Array Oper) (late : List Nat) (r : List (Nat × Nat)) : Bool := Region.noSelect ops && (r.length == ops.size) && okOrd ops late r (Array.replicate ops.size false)

theorem wp_region_seq {id : Nat} {late : List Nat} {S0 S : World → Prop} {r : List (Nat × Nat)} {a : Act} {w : World} (hm : P.follows .mixedOrders = true) (hB : okStart ops late r = true)
    (hw : S0 w.drew ∧ S w.drew) (h : seqT P ops (NoPanic Q) late S0 S r (Array.replicate ops.size false) a w.drew) : (Code.region id ops true).wp P Q a w := by
  simp only [okStart, Bool.and_eq_true, beq_iff_eq] at hB
  refine wp_region_noPanic (wp_region_any hm (wpAny_of_T (late := late) (S0 := S0) (S := S) _ _ _ _ ?_))
  have := wpAnyT_of_seq (P := P) (Q := NoPanic Q) hB.1.1 (fun c a d v w h => h) r _ a w.drew hB.2 (closed_start ops) (by simp) ⟨hw.1, fun _ _ => hw.2⟩ h
  rw [hB.1.2] at this
  exact this
end

section
variable {P : Program} {g : Gl} {n : Nat} {env : Env} {L M : List HP} {Q : Exit → Act → World → Prop} {lops l : List Oper} {o : Oper} {d : Nat} {v : Value}

/-- the walk in an order of one's own -/
def WO (P : Program) (g : Gl) (n : Nat) (env : Env) (L : List HP) (lops : List Oper) (late : List Nat) (L0 : List HP) (r : List (Nat × Nat)) (listed : Array Bool) (Q : Exit → Act → World → Prop) : Prop :=
  ∀ a w, Fits n env a → Fit g L w → seqT P lops.toArray (NoPanic Q) late (Fit g []) (Fit g L0) r listed a w

theorem r_ord {id : Nat} (late : List Nat) (L0 : List HP) (r : List (Nat × Nat)) (hm : P.follows .mixedOrders = true) (hB : okStart lops.toArray late r = true) (h0 : ∀ h, Sat L h → Sat L0 h)
    (k : WO P g n env L lops late L0 r (Array.replicate lops.toArray.size false) Q) : WP P g n (.region id lops.toArray true) Q env L := fun a w fa fw => by
  have fd : Fit g L w.drew := ⟨fw.os, fw.tape, fw.output, Nat.le_trans fw.dr (Nat.le_succ _), fw.sat⟩
  exact wp_region_seq (S0 := Fit g []) (S := Fit g L0) hm hB ⟨fd.mono (M := []) fun _ _ => trivial, fd.mono h0⟩ (k a w.drew fa fd)

theorem o_nil {late : List Nat} {L0 : List HP} {listed : Array Bool} (k : AT g n .normal Q env L) : WO P g n env L lops late L0 [] listed Q := fun a w fa fw => k a w fa fw

theorem yi_po {S0 : List HP} {a : Act} (fa : Fits n env a) (hw : wantE lops env o = some true) (h : PO P g n env S0 o v) : YieldsIf P lops.toArray (Fit g S0) o v a :=
  .inl ⟨wanted_of fa hw, fun w fw => h a w fa fw⟩
theorem yi_no {S0 : List HP} {a : Act} (fa : Fits n env a) (hw : wantE lops env o = some false) : YieldsIf P lops.toArray (Fit g S0) o undef a :=
  .inr ⟨wanted_of fa hw, rfl⟩

variable {late : List Nat} {L0 : List HP} {listed : Array Bool} {r : List (Nat × Nat)} {i : Nat}
theorem nth_arr (h : nth lops i = some o) : lops.toArray[i]? = some o := by rw [nth_eq] at h; simpa using h

/-- a reading operation -/
theorem o_rd (ho : nth lops i = some o) (h : PO P g n env L0 o v) (hS : ∀ h, Sat L h → Sat L0 h) (hw : wantE lops env o = some true) (hd : o.dst = some d) (hn : Nat.blt d n = true)
    (k : WO P g n ((d, v) :: env) L lops late L0 r (listed.setIfInBounds i true) Q) : WO P g n env L lops late L0 ((i, 0) :: r) listed Q := fun a w fa fw =>
  ⟨o, v, nth_arr ho, yi_po fa hw h, fw.mono hS, by rw [hd]; exact k _ w (fa.put hn v) fw⟩
theorem o_rd0 (ho : nth lops i = some o) (h : PO P g n env L0 o v) (hS : ∀ h, Sat L h → Sat L0 h) (hw : wantE lops env o = some true) (hd : o.dst = none)
    (k : WO P g n env L lops late L0 r (listed.setIfInBounds i true) Q) : WO P g n env L lops late L0 ((i, 0) :: r) listed Q := fun a w fa fw =>
  ⟨o, v, nth_arr ho, yi_po fa hw h, fw.mono hS, by rw [hd]; exact k _ w fa fw⟩
/-- one that reads nothing -/
theorem o_fr (ho : nth lops i = some o) (h : PO P g n env [] o v) (hw : wantE lops env o = some true) (hd : o.dst = some d) (hn : Nat.blt d n = true)
    (k : WO P g n ((d, v) :: env) L lops late L0 r (listed.setIfInBounds i true) Q) : WO P g n env L lops late L0 ((i, 1) :: r) listed Q := fun a w fa fw =>
  ⟨o, v, nth_arr ho, yi_po fa hw h, by rw [hd]; exact k _ w (fa.put hn v) fw⟩
theorem o_fr0 (ho : nth lops i = some o) (h : PO P g n env [] o v) (hw : wantE lops env o = some true) (hd : o.dst = none)
    (k : WO P g n env L lops late L0 r (listed.setIfInBounds i true) Q) : WO P g n env L lops late L0 ((i, 1) :: r) listed Q := fun a w fa fw =>
  ⟨o, v, nth_arr ho, yi_po fa hw h, by rw [hd]; exact k _ w fa fw⟩
/-- one that is not carried out -/
theorem o_no (ho : nth lops i = some o) (hw : wantE lops env o = some false) (hd : o.dst = some d) (hn : Nat.blt d n = true)
    (k : WO P g n ((d, undef) :: env) L lops late L0 r (listed.setIfInBounds i true) Q) : WO P g n env L lops late L0 ((i, 1) :: r) listed Q := fun a w fa fw =>
  ⟨o, undef, nth_arr ho, yi_no fa hw, by rw [hd]; exact k _ w (fa.put hn undef) fw⟩
theorem o_no0 (ho : nth lops i = some o) (hw : wantE lops env o = some false) (hd : o.dst = none)
    (k : WO P g n env L lops late L0 r (listed.setIfInBounds i true) Q) : WO P g n env L lops late L0 ((i, 1) :: r) listed Q := fun a w fa fw =>
  ⟨o, undef, nth_arr ho, yi_no fa hw, by rw [hd]; exact k _ w fa fw⟩
/-- nothing else may come up -/
theorem o_st (ho : nth lops i = some o) (k : ST P g n env L lops o (fun env' L' => (early late listed i = true → ∀ h, Sat L' h → Sat L0 h) ∧ WO P g n env' L' lops late L0 r (listed.setIfInBounds i true) Q)) :
    WO P g n env L lops late L0 ((i, 2) :: r) listed Q := fun a w fa fw => by
  have := k (NoPanic Q) (fun a' w' => (Fit g [] w' ∧ (early late listed i = true → Fit g L0 w')) ∧ seqT P lops.toArray (NoPanic Q) late (Fit g []) (Fit g L0) r (listed.setIfInBounds i true) a' w')
    (fun env' L' h a' w' fa' fw' => ⟨⟨fw'.mono fun _ _ => trivial, fun he => fw'.mono (h.1 he)⟩, h.2 a' w' fa' fw'⟩) a w fa fw
  show wpOp P lops.toArray (NoPanic Q) i _ a w
  unfold wpOp
  rw [nth_arr ho]
  dsimp only
  split
  · rename_i hw; rw [if_pos hw] at this; exact .inl this
  · rename_i hw; rw [if_neg hw] at this; exact this
end
end Hd
end
section
namespace Hd
open Go

def ptrB (P : Program) (t : TypeId) : Bool :=
  match P.underlying t with
  | some (.pointer e) => (P.info? e).isSome
  | _ => false
def boolB (P : Program) (t : TypeId) : Bool :=
  match P.underlying t with
  | some .bool => true
  | _ => false
def arrB (P : Program) (t len e k : Nat) : Bool :=
  match P.underlying t with
  | some (.array n el) => (n == len) && (el == e) && (P.cellsOf e == k) && (P.info? e).isSome
  | _ => false
/-- field f of the struct type s begins at off and is of type t -/
def fieldtB (P : Program) (s f off t : Nat) : Bool :=
  match P.underlying s with
  | some (.struct fs) => match fs[f]? with
    | some x => (x.offset == off) && (x.type == t)
    | none => false
  | _ => false

theorem late_no {late : List Nat} {listed : Array Bool} {i : Nat} {p : Prop} (h : early late listed i = true) (e : early late listed i = false) : p := by rw [e] at h; cases h

section
variable {P : Program} {g : Gl} {n : Nat} {env : Env} {L M : List HP} {Q : Exit → Act → World → Prop} {lops l : List Oper} {o : Oper} {d : Nat} {v : Value}
variable {dst : Option Tmp} {ty : TypeId} {pos : String} {af : Array Edge} {gd : Option (Nat × Bool)}
variable {α : Type} {E : Enc α} {s u : Value} {xs ys : List α} {R : List HP}

theorem r_nd_t {c : Operand} {x y : Code} {p : Prop} [Decidable p] (hc : env.ev c = some (.bool (!decide p))) (hp : ¬ p) (kt : WP P g n x Q env L) : WP P g n (.cond c x y) Q env L :=
  r_cond_t hc (by simpa using hp) kt
theorem r_nd_f {c : Operand} {x y : Code} {p : Prop} [Decidable p] (hc : env.ev c = some (.bool (!decide p))) (hp : p) (kf : WP P g n y Q env L) : WP P g n (.cond c x y) Q env L :=
  r_cond_f hc (by simpa using hp) kf

theorem po_func {fn : Fn} {fs cs : List Operand} {vs us : List Value} (h1 : evs env fs = some vs) (h2 : evs env cs = some us) : PO P g n env L ⟨dst, .makeFunc fn fs.toArray cs.toArray, ty, pos, af, gd⟩ (.func fn vs.toArray us.toArray) := by
  intro a w fa fw
  simp [execOp, Instr.makeFunc, evs_map fa h1, evs_map fa h2]

theorem und_ptr {t : TypeId} (h : ptrB P t = true) : ∃ e, P.underlying t = some (.pointer e) := by
  unfold ptrB at h
  cases e : P.underlying t with
  | none => simp [e] at h
  | some d => cases d <;> simp [e] at h; exact ⟨_, rfl⟩

theorem eqGuard_ptr {op : BinOp} {t : TypeId} {x y : Operand} {p q : Option Addr} {w : World} : (eqGuard op t x y (.pointer p) (.pointer q)).run P w = .ok () w := by
  unfold eqGuard; cases op <;> simp

theorem equal_ptr {t e : TypeId} {p : Option Addr} {w : World} (hu : P.underlying t = some (.pointer e)) (d : Nat) : (Op.equalIn (d + 1) t (.pointer p) (.pointer none)).run P w = .ok p.isNone w := by
  have h : (underlying t).run P w = .ok (.pointer e) w := by simp [underlying, hu]
  unfold Op.equalIn
  simp only [Sem.run_bind, h, Result.andThen_ok]
  cases p <;> simp
/-- a pointer against nil -/
theorem po_peq {x y : Operand} {p : Option Addr} {t t2 : TypeId} (hx : env.ev x = some (.pointer p)) (hy : env.ev y = some (.pointer none)) (ht : ptrB P t = true) :
    PO P g n env L ⟨dst, .binOp .eql t x y t2, ty, pos, af, gd⟩ (.bool p.isNone) := by
  intro a w fa fw
  obtain ⟨e, hu⟩ := und_ptr ht
  have hb : binOp .eql t (.pointer p) (.pointer none) = (do pure (.bool (← Op.equal t (.pointer p) (.pointer none)))) := by cases p <;> rfl
  have he : (Op.equal t (.pointer p) (.pointer none)).run P w = .ok p.isNone w := equal_ptr hu 9999
  simp only [execOp, fa.ev hx, fa.ev hy, Sem.run_bind, eqGuard_ptr, Result.andThen_ok, hb, he, Sem.run_pure]
theorem po_pne {x y : Operand} {p : Option Addr} {t t2 : TypeId} (hx : env.ev x = some (.pointer p)) (hy : env.ev y = some (.pointer none)) (ht : ptrB P t = true) :
    PO P g n env L ⟨dst, .binOp .neq t x y t2, ty, pos, af, gd⟩ (.bool (!p.isNone)) := by
  intro a w fa fw
  obtain ⟨e, hu⟩ := und_ptr ht
  have hb : binOp .neq t (.pointer p) (.pointer none) = (do pure (.bool (!(← Op.equal t (.pointer p) (.pointer none))))) := by cases p <;> rfl
  have he : (Op.equal t (.pointer p) (.pointer none)).run P w = .ok p.isNone w := equal_ptr hu 9999
  simp only [execOp, fa.ev hx, fa.ev hy, Sem.run_bind, eqGuard_ptr, Result.andThen_ok, hb, he, Sem.run_pure]

theorem und_bool {t : TypeId} (h : boolB P t = true) : P.underlying t = some .bool := by
  unfold boolB at h
  cases e : P.underlying t with
  | none => simp [e] at h
  | some d => cases d <;> simp [e] at h; rfl
theorem eqGuard_bool {op : BinOp} {t : TypeId} {x y : Operand} {p q : Bool} {w : World} : (eqGuard op t x y (.bool p) (.bool q)).run P w = .ok () w := by
  unfold eqGuard; cases op <;> simp
theorem equal_bool {t : TypeId} {p q : Bool} {w : World} (hu : P.underlying t = some .bool) (d : Nat) : (Op.equalIn (d + 1) t (.bool p) (.bool q)).run P w = .ok (p == q) w := by
  have h : (underlying t).run P w = .ok .bool w := by simp [underlying, hu]
  unfold Op.equalIn
  simp only [Sem.run_bind, h, Result.andThen_ok, Sem.run_pure]
theorem po_beq {x y : Operand} {p q : Bool} {t t2 : TypeId} (hx : env.ev x = some (.bool p)) (hy : env.ev y = some (.bool q)) (ht : boolB P t = true) :
    PO P g n env L ⟨dst, .binOp .eql t x y t2, ty, pos, af, gd⟩ (.bool (p == q)) := by
  intro a w fa fw
  have hb : binOp .eql t (.bool p) (.bool q) = (do pure (.bool (← Op.equal t (.bool p) (.bool q)))) := rfl
  have he : (Op.equal t (.bool p) (.bool q)).run P w = .ok (p == q) w := equal_bool (und_bool ht) 9999
  simp only [execOp, fa.ev hx, fa.ev hy, Sem.run_bind, eqGuard_bool, Result.andThen_ok, hb, he, Sem.run_pure]
theorem po_bne {x y : Operand} {p q : Bool} {t t2 : TypeId} (hx : env.ev x = some (.bool p)) (hy : env.ev y = some (.bool q)) (ht : boolB P t = true) :
    PO P g n env L ⟨dst, .binOp .neq t x y t2, ty, pos, af, gd⟩ (.bool (!(p == q))) := by
  intro a w fa fw
  have hb : binOp .neq t (.bool p) (.bool q) = (do pure (.bool (!(← Op.equal t (.bool p) (.bool q))))) := rfl
  have he : (Op.equal t (.bool p) (.bool q)).run P w = .ok (p == q) w := equal_bool (und_bool ht) 9999
  simp only [execOp, fa.ev hx, fa.ev hy, Sem.run_bind, eqGuard_bool, Result.andThen_ok, hb, he, Sem.run_pure]

theorem arrB_spec {t len e k : Nat} (h : arrB P t len e k = true) : P.underlying t = some (.array len e) ∧ ∃ i, P.info? e = some i ∧ i.size = k := by
  unfold arrB at h
  cases eu : P.underlying t with
  | none => simp [eu] at h
  | some d =>
    cases d <;> simp [eu] at h
    obtain ⟨⟨⟨h1, h2⟩, h3⟩, h4⟩ := h
    subst h1 h2
    obtain ⟨i, hi⟩ := Option.isSome_iff_exists.1 h4
    exact ⟨rfl, i, hi, by simpa [Program.cellsOf, hi] using h3⟩

/-- the address of an array's element -/
theorem po_iaddr_arr {t len e k : Nat} {x ix : Operand} {b off : Nat} {kk : IntKind} {i : Int} (hx : env.ev x = some (.pointer (some ⟨b, off, none⟩))) (hi : env.ev ix = some (.int kk i)) (ht : arrB P t len e k = true) (h0 : 0 ≤ i) (h1 : i < (len : Int)) :
    PO P g n env L ⟨dst, .indexAddr t x ix, ty, pos, af, gd⟩ (.pointer (some ⟨b, off + i.toNat * k, none⟩)) := by
  intro a w fa fw
  obtain ⟨hu, ii, hii, hs⟩ := arrB_spec ht
  simp [execOp, fa.ev hx, fa.ev hi, Instr.indexAt, asIntOf, underlying, hu, h0, h1, Go.sizeOf, typeInfo, hii, hs, Instr.sureAddr, add_off]

theorem part_flat {t : TypeId} {cs : List Value} {off : Nat} {w : World} (ht : flatB P t = true) (h : nth cs off = some v) : (part t cs.toArray off).run P w = .ok v w := by
  rw [nth_eq] at h
  simp [part, isAgg_flat ht, h]
theorem part_agg {t : TypeId} {cs vs : List Value} {off k : Nat} {w : World} (ht : aggB P t k = true) (h : slc cs off k = some vs) : (part t cs.toArray off).run P w = .ok (.agg vs.toArray) w := by
  obtain ⟨h1, h2⟩ := slc_spec _ _ _ _ h
  simp only [part, Sem.run_bind, isAgg_agg ht, Result.andThen_ok, if_true, size_agg ht, Sem.run_pure]
  congr 2
  rw [h1]
  apply Array.ext'
  simp

theorem fieldtB_spec {st f off t : Nat} (h : fieldtB P st f off t = true) : ∃ fs x, P.underlying st = some (.struct fs) ∧ fs[f]? = some x ∧ x.offset = off ∧ x.type = t := by
  unfold fieldtB at h
  cases eu : P.underlying st with
  | none => simp [eu] at h
  | some d =>
    cases d <;> simp [eu] at h
    rename_i fs
    cases ef : fs[f]? with
    | none => simp [ef] at h
    | some x => simp [ef] at h; exact ⟨fs, x, rfl, ef, h.1, h.2⟩
theorem po_field {st f off t : Nat} {x : Operand} {cs : List Value} (hx : env.ev x = some (.agg cs.toArray)) (h : fieldtB P st f off t = true) (ht : flatB P t = true) (hv : nth cs off = some v) :
    PO P g n env L ⟨dst, .field st x f, ty, pos, af, gd⟩ v := by
  intro a w fa fw
  obtain ⟨fs, y, hu, hf, rfl, rfl⟩ := fieldtB_spec h
  simp [execOp, fa.ev hx, Instr.field, underlying, hu, hf, asAgg, part_flat ht hv]
theorem po_fielda {st f off t k : Nat} {x : Operand} {cs vs : List Value} (hx : env.ev x = some (.agg cs.toArray)) (h : fieldtB P st f off t = true) (ht : aggB P t k = true) (hv : slc cs off k = some vs) :
    PO P g n env L ⟨dst, .field st x f, ty, pos, af, gd⟩ (.agg vs.toArray) := by
  intro a w fa fw
  obtain ⟨fs, y, hu, hf, rfl, rfl⟩ := fieldtB_spec h
  simp [execOp, fa.ev hx, Instr.field, underlying, hu, hf, asAgg, part_agg ht hv]

theorem rv_cella {x t k b off : Nat} {cs vs : List Value} {T : TypeId} {fr : Nat × Nat} {R : List HP} (hx : env.get x = some (.pointer (some ⟨b, off, none⟩))) (ht : aggB P t k = true) [m : HasPt L b (.cells cs.toArray T fr) R] (hv : slc cs off k = some vs) :
    RV P g n env L (.cell x t) (.agg vs.toArray) := by
  intro a w fa fw
  have fw' := fw.mono m.out
  have hl := (slc_spec _ _ _ _ hv).2
  have := run_loadVar_agg (P := P) (w := w) (b := b) (off := off) ht hl (fun j hj => by
    have h1 := slc_get hv j (by omega)
    have : vs[j]? = some vs[j] := by simp
    rw [this] at h1 ⊢
    exact fw'.cellL h1)
  have hg := fa.get x _ hx
  simp [rvS, Array.getD_eq_getD_getElem?, hg, asAddr, this]
theorem rv_cell {x t b off : Nat} {cs : List Value} {T : TypeId} {fr : Nat × Nat} {R : List HP} (hx : env.get x = some (.pointer (some ⟨b, off, none⟩))) (ht : flatB P t = true) [m : HasPt L b (.cells cs.toArray T fr) R] (hv : nth cs off = some v) :
    RV P g n env L (.cell x t) v := by
  intro a w fa fw
  have fw' := fw.mono m.out
  rw [nth_eq] at hv
  have hc := fw'.cellL hv
  have hg := fa.get x _ hx
  simp [rvS, Array.getD_eq_getD_getElem?, hg, asAddr, loadVar, isAgg_flat ht, hc]

/-! ## build -/
/-- the struct type's zero value with parts laid in -/
def fillL : List Value → List (Nat × List Value) → List Value
  | cs, [] => cs
  | cs, (off, vs) :: r => fillL (putL cs off vs) r

/-- the places and sizes of the parts -/
def placesB (P : Program) (t : TypeId) (ps : List (Nat × Nat × Nat)) : Bool :=
  match P.underlying t with
  | some (.struct fs) => ps.all fun (i, off, k) => match fs[i]? with
    | some x => (x.offset == off) && (P.cellsOf x.type == k)
    | none => false
  | _ => false
def allInfoB (P : Program) (t : TypeId) : Bool :=
  match P.underlying t with
  | some (.struct fs) => fs.all fun x => (P.info? x.type).isSome
  | _ => false

theorem foldl_put : ∀ (vs : List Value) (cs : List Value) (off i : Nat), ((vs.zipIdx i).foldl (fun (c : Array Value) (x : Value × Nat) => c.setIfInBounds (off + x.2) x.1) cs.toArray) = (putL cs (off + i) vs).toArray
  | [], cs, off, i => by simp [putL]
  | v :: vs, cs, off, i => by
    simp only [List.zipIdx_cons, List.foldl_cons, putL]
    have : (cs.toArray.setIfInBounds (off + i) v) = (cs.set (off + i) v).toArray := by simp
    rw [this, foldl_put vs (cs.set (off + i) v) off (i + 1)]
    rfl

theorem run_fill {place : Nat → Option (Nat × Nat)} : ∀ (ps : List (Nat × Value)) (qs : List (Nat × List Value)) (cs : List Value), ps.length = qs.length →
    (∀ (j : Nat) (p : Nat × Value) (q : Nat × List Value), ps[j]? = some p → qs[j]? = some q → place p.1 = some (q.1, q.2.length) ∧ p.2.cells = q.2.toArray ∧ q.1 + q.2.length ≤ cs.length) →
    Instr.fill place cs.toArray ps = some (fillL cs qs).toArray
  | [], [], cs, _, _ => by simp [Instr.fill, fillL]
  | [], _ :: _, _, h, _ => by simp at h
  | _ :: _, [], _, h, _ => by simp at h
  | (i, v) :: ps, (off, vs) :: qs, cs, hl, h => by
    obtain ⟨h1, h2, h3⟩ := h 0 (i, v) (off, vs) (by simp) (by simp)
    simp only at h1 h2 h3
    simp only [Instr.fill, h1, h2]
    rw [if_neg (by simp; omega)]
    have hf := foldl_put vs cs off 0
    have e : (vs.toArray.zipIdx.foldl (fun (c : Array Value) (x : Value × Nat) => c.setIfInBounds (off + x.2) x.1) cs.toArray) = (putL cs off vs).toArray := by
      rw [← Array.foldl_toList]
      simpa using hf
    have e' : (vs.toArray.zipIdx.foldl (fun cs x => match x with | (c, j) => cs.setIfInBounds (off + j) c) cs.toArray) = (putL cs off vs).toArray := e
    rw [e', run_fill ps qs (putL cs off vs) (by simpa using hl) (fun j p q hp hq => by
      have := h (j + 1) p q (by simpa using hp) (by simpa using hq)
      rw [putL_len]; exact this)]
    rfl

/-- what each part is, as cells -/
def partsOf (env : Env) : List (Nat × Operand) → Option (List (Nat × Value))
  | [] => some []
  | (i, x) :: r => match env.ev x with
    | some v => match partsOf env r with
      | some vs => some ((i, v) :: vs)
      | none => none
    | none => none
theorem partsOf_map {a : Act} (fa : Fits n env a) : ∀ {ps : List (Nat × Operand)} {vs : List (Nat × Value)}, partsOf env ps = some vs → ps.map (fun (i, x) => (i, a.eval x)) = vs
  | [], vs, h => by simp [partsOf] at h; simp [h]
  | (i, x) :: r, vs, h => by
    simp only [partsOf] at h
    cases hx : env.ev x with
    | none => simp [hx] at h
    | some v =>
      simp only [hx] at h
      cases hr : partsOf env r with
      | none => simp [hr] at h
      | some us =>
        simp only [hr] at h
        have := Option.some.inj h
        subst this
        simp [fa.ev hx]
        simpa using partsOf_map fa hr

def cellsL : Value → List Value
  | .agg cs => cs.toList
  | v => [v]
theorem cellsL_eq (v : Value) : v.cells = (cellsL v).toArray := by cases v <;> simp [Value.cells, cellsL]
/-- the parts fit their places -/
def fitsB : List (Nat × Nat × Nat) → List (Nat × Value) → Nat → Bool
  | [], [], _ => true
  | (i, off, k) :: r, (j, v) :: vs, m => Nat.beq i j && Nat.beq (cellsL v).length k && Nat.ble (off + k) m && fitsB r vs m
  | _, _, _ => false
def laidL : List (Nat × Nat × Nat) → List (Nat × Value) → List (Nat × List Value)
  | (_, off, _) :: r, (_, v) :: vs => (off, cellsL v) :: laidL r vs
  | _, _ => []

theorem mapM_places {P : Program} {w : World} {fs : List Field} (h : fs.all (fun x => (P.info? x.type).isSome) = true) :
    (fs.mapM fun f => (do pure (f.offset, ← Go.sizeOf f.type) : Sem (Nat × Nat))).run P w = .ok (fs.map fun f => (f.offset, P.cellsOf f.type)) w := by
  induction fs with
  | nil => simp
  | cons f fs ih =>
    simp only [List.all_cons, Bool.and_eq_true] at h
    obtain ⟨i, hi⟩ := Option.isSome_iff_exists.1 h.1
    have hs : (Go.sizeOf f.type).run P w = .ok i.size w := by simp [Go.sizeOf, typeInfo, hi]
    have hc : P.cellsOf f.type = i.size := by simp [Program.cellsOf, hi]
    have ih' := ih h.2
    simp only [bind_pure_comp] at ih' ⊢
    simp [ih', hs, hc]

theorem po_build {t : TypeId} {ps : List (Nat × Operand)} {vs : List (Nat × Value)} {zs : List Value} {places : List (Nat × Nat × Nat)} (hv : partsOf env ps = some vs) (hz : zeroB P t = some zs) (hp : placesB P t places = true) (hi : allInfoB P t = true) (hf : fitsB places vs zs.length = true) :
    PO P g n env L ⟨dst, .build t ps.toArray, ty, pos, af, gd⟩ (.agg (fillL zs (laidL places vs)).toArray) := by
  intro a w fa fw
  obtain ⟨z, hzr, hzc⟩ := run_zero (w := w) hz
  unfold placesB at hp
  cases hu : P.underlying t with
  | none => simp [hu] at hp
  | some ds =>
    cases ds <;> simp [hu] at hp
    rename_i fs
    unfold allInfoB at hi
    simp only [hu] at hi
    have hi' : fs.toList.all (fun x => (P.info? x.type).isSome) = true := by simpa using hi
    have hm := mapM_places (P := P) (w := w) hi'
    have hm2 : (fs.mapM fun f => (do pure (f.offset, ← Go.sizeOf f.type) : Sem (Nat × Nat))).run P w = .ok (fs.toList.map fun f => (f.offset, P.cellsOf f.type)).toArray w := by
      rw [Array.mapM_eq_mapM_toList]; simp only [Sem.run_map]; rw [hm]; rfl
    have hfill : Instr.fill (fun i => ((fs.toList.map fun f => (f.offset, P.cellsOf f.type)).toArray)[i]?) zs.toArray vs = some (fillL zs (laidL places vs)).toArray := by
      have key : ∀ (pl : List (Nat × Nat × Nat)) (us : List (Nat × Value)), (∀ x ∈ pl, (match fs[x.1]? with | some y => (y.offset == x.2.1) && (P.cellsOf y.type == x.2.2) | none => false) = true) → fitsB pl us zs.length = true →
          us.length = (laidL pl us).length ∧ ∀ (j : Nat) (p : Nat × Value) (q : Nat × List Value), us[j]? = some p → (laidL pl us)[j]? = some q →
            ((fs.toList.map fun f => (f.offset, P.cellsOf f.type)).toArray)[p.1]? = some (q.1, q.2.length) ∧ p.2.cells = q.2.toArray ∧ q.1 + q.2.length ≤ zs.length := by
        intro pl
        induction pl with
        | nil => intro us _ h2; cases us <;> simp [fitsB] at h2; simp [laidL]
        | cons x pl ih =>
          intro us h1 h2
          cases us with
          | nil => simp [fitsB] at h2
          | cons y us =>
            obtain ⟨i, off, k⟩ := x
            obtain ⟨j, u⟩ := y
            simp only [fitsB, Bool.and_eq_true, Nat.ble_eq] at h2
            obtain ⟨⟨⟨e1, e2⟩, e3⟩, e4⟩ := h2
            have e1 := Nat.eq_of_beq_eq_true e1
            have e2 := Nat.eq_of_beq_eq_true e2
            subst e1
            obtain ⟨ih1, ih2⟩ := ih us (fun x hx => h1 x (by simp [hx])) e4
            refine ⟨by simp [laidL, ih1], fun jj p q hp hq => ?_⟩
            cases jj with
            | zero =>
              simp [laidL] at hp hq
              subst hp hq
              have h3 := h1 (i, off, k) (by simp)
              simp only at h3
              cases hfi : fs[i]? with
              | none => simp [hfi] at h3
              | some yy =>
                simp [hfi] at h3
                refine ⟨by simp [hfi, h3.1, h3.2, e2], cellsL_eq u, by simp only [e2]; exact e3⟩
            | succ jj =>
              simp [laidL] at hp hq
              exact ih2 jj p q hp hq
      obtain ⟨k1, k2⟩ := key places vs (fun x hx => by
        obtain ⟨i, off, k⟩ := x
        have := hp i off k hx
        cases hfi : fs[i]? with
        | none => simp [hfi] at this
        | some yy => simpa [hfi] using this) hf
      exact run_fill vs (laidL places vs) zs k1 k2
    have hps : (ps.toArray.map fun (i, x) => (i, a.eval x)) = vs.toArray := by rw [List.map_toArray, partsOf_map fa hv]
    simp only [execOp, Instr.build, hps, Sem.run_bind, hzr, Result.andThen_ok, underlying, run_program, hu, Sem.run_pure, hm2, hzc, hfill]

end
end Hd
end
section
namespace Hd
open Go

/-! ## parts of a slice -/
def subv (k lo hi : Nat) : Value → Value
  | .slice a _ cap => .slice (if cap = lo then a else a.map (fun x => x.add (lo * k))) (hi - lo) (cap - lo)
  | v => v

theorem take_drop_flat {α : Type} (E : Enc α) (xs : List α) (lo hi : Nat) (h1 : lo ≤ hi) (h2 : hi ≤ xs.length) :
    xs.flatMap E.f = (xs.take lo).flatMap E.f ++ (((xs.take hi).drop lo).flatMap E.f ++ (xs.drop hi).flatMap E.f) := by
  have e1 : xs = xs.take lo ++ ((xs.take hi).drop lo ++ xs.drop hi) := by
    have e2 : xs.take lo = (xs.take hi).take lo := by rw [List.take_take, Nat.min_eq_left h1]
    rw [← List.append_assoc, e2, List.take_append_drop, List.take_append_drop]
  conv => lhs; rw [e1]
  simp

theorem sub_len {α : Type} (xs : List α) (lo hi : Nat) (h2 : hi ≤ xs.length) : ((xs.take hi).drop lo).length = hi - lo := by
  rw [List.length_drop, List.length_take, Nat.min_eq_left h2]

theorem sl_sub {α : Type} {E : Enc α} {s : Value} {xs : List α} {lo hi : Nat} (h1 : lo ≤ hi) (h2 : hi ≤ xs.length) : ∀ h, Sl E s xs h → Sl E (subv E.k lo hi s) ((xs.take hi).drop lo) h := by
  intro h hs
  rcases hs with ⟨e, e'⟩ | ⟨b, off, cap, pre, post, e1, e2, e3, e4, hp⟩
  · subst e e'
    simp at h2
    subst h2
    have : lo = 0 := by omega
    subst this
    exact .inl ⟨by simp [subv], by simp⟩
  · subst e1
    have hl := sub_len xs lo hi h2
    right
    by_cases hc : cap = lo
    · have hh : hi = lo := by omega
      have hx : (xs.take hi).drop lo = [] := List.eq_nil_of_length_eq_zero (by omega)
      refine ⟨b, off, 0, pre, xs.flatMap E.f ++ post, ?_, by simp [hx], e3, by simp [hx], ?_⟩
      · simp [subv, hc, hx, hh]
      · simpa [hx] using hp
    · refine ⟨b, off + lo * E.k, cap - lo, pre ++ (xs.take lo).flatMap E.f, (xs.drop hi).flatMap E.f ++ post, ?_, by omega, ?_, ?_, ?_⟩
      · simp [subv, hc, hl, add_off]
      · rw [List.length_append, flat_len, List.length_take, Nat.min_eq_left (by omega), e3]
      · rw [List.length_append, flat_len, hl, List.length_drop]
        have : cap - lo - (hi - lo) = (xs.length - hi) + (cap - xs.length) := by omega
        rw [this, Nat.add_mul]; omega
      · have := take_drop_flat E xs lo hi h1 h2
        rw [this] at hp
        simpa using hp

theorem ent_sub {α : Type} {E : Enc α} {s : Value} {xs : List α} {L R : List HP} [m : HasSl L s α E xs R] (lo hi : Nat) (h1 : lo ≤ hi) (h2 : hi ≤ xs.length) : ∀ h, Sat L h → Sat (Sl E (subv E.k lo hi s) ((xs.take hi).drop lo) :: R) h :=
  fun h hs => sat_head (sl_sub h1 h2) (m.out h hs)

theorem rd_sub {α : Type} {E : Enc α} {s : Value} {xs : List α} {L : List HP} [m : Rd L s α E xs] (lo hi : Nat) (h1 : lo ≤ hi) (h2 : hi ≤ xs.length) : Rd L (subv E.k lo hi s) α E ((xs.take hi).drop lo) := ⟨fun h hs => by
  rcases m.out h hs with ⟨e, e'⟩ | ⟨b, off, cap, e1, e5, e2⟩
  · subst e e'
    simp at h2
    subst h2
    have : lo = 0 := by omega
    subst this
    exact .inl ⟨by simp [subv], by simp⟩
  · subst e1
    have hl := sub_len xs lo hi h2
    right
    by_cases hc : cap = lo
    · have hh : hi = lo := by omega
      have hx : (xs.take hi).drop lo = [] := List.eq_nil_of_length_eq_zero (by omega)
      refine ⟨b, off, 0, ?_, by simp [hx], fun j u hu => ?_⟩
      · simp [subv, hc, hx, hh]
      · simp [hx] at hu
    · refine ⟨b, off + lo * E.k, cap - lo, ?_, by omega, fun j u hu => ?_⟩
      · simp [subv, hc, hl, add_off]
      · have ht := take_drop_flat E xs lo hi h1 h2
        have hj : j < (((xs.take hi).drop lo).flatMap E.f).length := lt_of_get hu
        have : (xs.flatMap E.f)[lo * E.k + j]? = some u := by
          rw [ht, List.getElem?_append_right (by rw [flat_len, List.length_take, Nat.min_eq_left (by omega)]; omega), flat_len, List.length_take, Nat.min_eq_left (by omega), Nat.add_sub_cancel_left, List.getElem?_append_left hj, hu]
        obtain ⟨c, T, fr, hb, hcc⟩ := e2 _ u this
        exact ⟨c, T, fr, hb, by rw [Nat.add_assoc]; exact hcc⟩⟩

section
variable {P : Program} {g : Gl} {n : Nat} {env : Env} {L M : List HP} {Q : Exit → Act → World → Prop} {lops l : List Oper} {o : Oper} {d : Nat} {v : Value}
variable {dst : Option Tmp} {ty : TypeId} {pos : String} {af : Array Edge} {gd : Option (Nat × Bool)}
variable {α : Type} {E : Enc α} {s u : Value} {xs ys : List α} {R : List HP}

theorem rd_len' {L : List HP} {g : Gl} {w : World} {α : Type} {E : Enc α} {v : Value} {xs : List α} (f : Fit g L w) (m : Rd L v α E xs) : ∃ ad cap, v = .slice ad xs.length cap ∧ xs.length ≤ cap := by
  rcases m.out _ f.sat with ⟨e, e'⟩ | ⟨b, off, cap, e1, e2, -⟩
  · subst e e'; exact ⟨none, 0, rfl, Nat.le_refl _⟩
  · exact ⟨_, _, e1, e2⟩

/-- x[i:j] -/
theorem po_slice_lh {t : TypeId} {x y z : Operand} {k k' : IntKind} {i j : Int} (hx : env.ev x = some s) (hy : env.ev y = some (.int k i)) (hz : env.ev z = some (.int k' j)) [m : Rd L s α E xs] (ht : sliceB P t E.T E.k = true)
    (h0 : 0 ≤ i) (h1 : i ≤ j) (h2 : j ≤ xs.length) : PO P g n env L ⟨dst, .slice t x (some y) (some z) none, ty, pos, af, gd⟩ (subv E.k i.toNat j.toNat s) := by
  intro a w fa fw
  obtain ⟨hu, ii, hii, hs⟩ := sliceB_und ht
  obtain ⟨ad, cap, rfl, hc⟩ := rd_len' (E := E) (xs := xs) (v := s) fw m
  have c1 : j ≤ (cap : Int) := by omega
  have c2 : 0 ≤ j := by omega
  have c3 : ¬ (max j 0 < i) := by omega
  simp [execOp, fa.ev hx, fa.ev hy, fa.ev hz, Instr.sliceAt, Instr.slice, Instr.sliceBounds, Instr.sliceBound, asIntOf, underlying, hu, h0, c1, c2, Go.sizeOf, typeInfo, hii, hs, subv]
  intro c; exact absurd c c3
/-- x[i:] -/
theorem po_slice_l {t : TypeId} {x y : Operand} {k : IntKind} {i : Int} (hx : env.ev x = some s) (hy : env.ev y = some (.int k i)) [m : Rd L s α E xs] (ht : sliceB P t E.T E.k = true)
    (h0 : 0 ≤ i) (h1 : i ≤ xs.length) : PO P g n env L ⟨dst, .slice t x (some y) none none, ty, pos, af, gd⟩ (subv E.k i.toNat xs.length s) := by
  intro a w fa fw
  obtain ⟨hu, ii, hii, hs⟩ := sliceB_und ht
  obtain ⟨ad, cap, rfl, hc⟩ := rd_len' (E := E) (xs := xs) (v := s) fw m
  simp [execOp, fa.ev hx, fa.ev hy, Instr.sliceAt, Instr.slice, Instr.sliceBounds, Instr.sliceBound, asIntOf, underlying, hu, h0, h1, Go.sizeOf, typeInfo, hii, hs, subv]
/-- x[:j] -/
theorem po_slice_h {t : TypeId} {x z : Operand} {k : IntKind} {j : Int} (hx : env.ev x = some s) (hz : env.ev z = some (.int k j)) [m : Rd L s α E xs] (ht : sliceB P t E.T E.k = true)
    (h0 : 0 ≤ j) (h1 : j ≤ xs.length) : PO P g n env L ⟨dst, .slice t x none (some z) none, ty, pos, af, gd⟩ (subv E.k 0 j.toNat s) := by
  intro a w fa fw
  obtain ⟨hu, ii, hii, hs⟩ := sliceB_und ht
  obtain ⟨ad, cap, rfl, hc⟩ := rd_len' (E := E) (xs := xs) (v := s) fw m
  have c1 : j ≤ (cap : Int) := by omega
  simp [execOp, fa.ev hx, fa.ev hz, Instr.sliceAt, Instr.slice, Instr.sliceBounds, Instr.sliceBound, asIntOf, underlying, hu, h0, c1, Go.sizeOf, typeInfo, hii, hs, subv]

/-- an array's element, out of its value -/
theorem po_index_arr {t len e k : Nat} {x ix : Operand} {cs : List Value} {kk : IntKind} {i : Int} (hx : env.ev x = some (.agg cs.toArray)) (hi : env.ev ix = some (.int kk i)) (ht : arrB P t len e k = true) (hf : flatB P e = true) (h0 : 0 ≤ i) (h1 : i < (len : Int))
    (hv : nth cs (i.toNat * k) = some v) : PO P g n env L ⟨dst, .index t x ix, ty, pos, af, gd⟩ v := by
  intro a w fa fw
  obtain ⟨hu, ii, hii, hs⟩ := arrB_spec ht
  have := part_flat (P := P) (w := w) hf hv
  simp [execOp, fa.ev hx, fa.ev hi, Instr.index, asIntOf, underlying, hu, h0, h1, Go.sizeOf, typeInfo, hii, hs, this]

/-- a whole element -/
theorem so_storea_sl {t : TypeId} {x z : Operand} {i : Nat} {y' : α} (hx : env.ev x = some (ead s i E.k 0)) (hz : env.ev z = some (.agg (E.f y').toArray)) [m : HasSl L s α E xs R] (hi : i < xs.length) (ht : aggB P t E.k = true) :
    SO P g n env L ⟨dst, .store t x z, ty, pos, af, gd⟩ (Sl E s (xs.set i y') :: R) := by
  intro a w fa fw
  obtain ⟨b, off, cap, pre, post, e1, e2, e3, e4, fw'⟩ := sl_open (fw.mono m.out) hi
  subst e1
  have := fa.ev hx
  simp only [ead, Nat.add_zero] at this
  have hb : (i + 1) * E.k ≤ xs.length * E.k := Nat.mul_le_mul_right _ hi
  rw [Nat.succ_mul] at hb
  obtain ⟨w', hr, fw2⟩ := run_storeCells (P := P) (E.f y') _ (off + i * E.k) 0 w fw' (by simp only [List.length_append, flat_len, e3, E.len]; omega) (E.one y')
  refine ⟨w', ?_, fw2.mono fun h => sat_head (fun hh hp => ?_)⟩
  · simp [execOp, this, fa.ev hz, Instr.storeAt, Instr.sureAddr, storeVar, size_agg ht, Value.cells, E.len, hr]
  · have e5 : putL (pre ++ (xs.flatMap E.f ++ post)) (off + i * E.k + 0) (E.f y') = pre ++ ((xs.set i y').flatMap E.f ++ post) := by
      obtain ⟨x1, x2, hx12⟩ : ∃ x1 x2, xs = x1 ++ xs[i] :: x2 ∧ x1.length = i := ⟨xs.take i, xs.drop (i + 1), by simp, by simp; omega⟩
      obtain ⟨hx12, hx1⟩ := hx12
      generalize xs[i] = y at hx12
      subst hx12
      have := putL_mid (E.f y') (pre ++ x1.flatMap E.f) (E.f y) (x2.flatMap E.f ++ post) (by rw [E.len, E.len])
      simp only [List.length_append, flat_len, e3, hx1] at this
      rw [List.set_append_right _ _ (by omega), hx1, Nat.sub_self, List.set_cons_zero]
      simp only [List.flatMap_append, List.flatMap_cons, List.append_assoc, Nat.add_zero] at this ⊢
      exact this
    rw [e5] at hp
    have := sl_shut (E := E) (xs := xs.set i y') (cap := cap) (off := off) (by simpa using e2) e3 (by simpa using e4) hh hp
    simpa using this

/-! ## a slice of given elements -/
def BS (E : Enc α) : Nat → List (Nat × Value) → List α → Prop
  | _, [], [] => True
  | i, (j, v) :: vs, x :: xs => j = i ∧ cellsL v = E.f x ∧ BS E (i + 1) vs xs
  | _, _, _ => False

theorem bs_len : ∀ {i : Nat} {vs : List (Nat × Value)} {xs : List α}, BS E i vs xs → vs.length = xs.length
  | _, [], [], _ => rfl
  | i, (j, v) :: vs, x :: xs, h => by simp [bs_len h.2.2]

theorem bs_fill : ∀ (vs : List (Nat × Value)) (xs : List α) (pre post : List Value) (i : Nat), BS E i vs xs → pre.length = i * E.k → post.length = xs.length * E.k →
    Instr.fill (fun i => some (i * E.k, E.k)) (pre ++ post).toArray vs = some (pre ++ xs.flatMap E.f).toArray
  | [], [], pre, post, i, _, _, h => by
    have : post = [] := List.eq_nil_of_length_eq_zero (by simpa using h)
    subst this
    simp [Instr.fill]
  | (j, v) :: vs, x :: xs, pre, post, i, ⟨hji, h1, h2⟩, hp, hq => by
    subst hji
    simp only [List.length_cons, Nat.succ_mul] at hq
    have hc : v.cells = (E.f x).toArray := by rw [cellsL_eq, h1]
    obtain ⟨p1, p2, rfl, hp1⟩ : ∃ p1 p2, post = p1 ++ p2 ∧ p1.length = E.k := ⟨post.take E.k, post.drop E.k, by simp, by simp; omega⟩
    have hs : v.cells.size = E.k := by rw [hc]; simp [E.len]
    have c1 : ¬ (j * E.k + E.k > pre.length + (p1.length + p2.length)) := by simp at hq; omega
    have e1 : (v.cells.zipIdx.foldl (fun (c : Array Value) (x : Value × Nat) => c.setIfInBounds (j * E.k + x.2) x.1) (pre ++ (p1 ++ p2)).toArray) = (pre ++ ((E.f x) ++ p2)).toArray := by
      rw [hc]
      have := foldl_put (E.f x) (pre ++ (p1 ++ p2)) (j * E.k) 0
      rw [Nat.add_zero, ← hp, putL_mid _ _ _ _ (by rw [E.len, hp1])] at this
      rw [← this, ← hp]
      simp
    have ih := bs_fill vs xs (pre ++ E.f x) p2 (j + 1) h2 (by rw [List.length_append, E.len, hp, Nat.succ_mul]) (by simp at hq; omega)
    simp only [Instr.fill, hs, ne_eq, not_true, List.size_toArray, List.length_append, c1, or_false, decide_false, Bool.false_eq_true, if_false, e1]
    simpa using ih

theorem xo_bslice (E : Enc α) (xs : List α) {t B len : Nat} {ps : List (Nat × Operand)} {vs : List (Nat × Value)} (hv : partsOf env ps = some vs) (ht : sliceB P t E.T E.k = true) (hE : elemB P E.T E.k B = true)
    (hb : BS E 0 vs xs) (hl : len = xs.length) (hs : len * E.k ≤ 2 ^ 24) :
    XO P g n env L ⟨dst, .buildSlice t len ps.toArray, ty, pos, af, gd⟩ (fun v M => M = Sl E v xs :: L) := by
  intro a w fa fw
  obtain ⟨hu, -⟩ := sliceB_und ht
  obtain ⟨i, z, hi, hsz, hby, hz, hzs⟩ := elemB_spec hE
  have hm := partsOf_map fa hv
  have hkp := E.pos
  have hps : Array.map (fun x => match x with | (i, x) => (i, a.eval x)) ps.toArray = vs.toArray := by
    rw [← hm]; simp
  have hfill : ∀ zs : List Value, zs.length = len * E.k → Instr.fill (fun i => some (i * E.k, E.k)) zs.toArray vs = some (xs.flatMap E.f).toArray := fun zs hz => by
    have := bs_fill vs xs [] zs 0 hb (by simp) (by rw [hz, hl])
    simpa using this
  refine ⟨.slice (some ⟨w.heap.size, 0, none⟩) len len, _, _, ?_, rfl, (fw.push (.cells (xs.flatMap E.f).toArray E.T (0, 0))).mono fun h => sat_head fun hh hpt => ?_⟩
  · have c1 : ¬ (len * E.k > 2 ^ 24) := by omega
    by_cases h0 : len * E.k = 0
    · have hr : Array.range (len * E.k) = #[] := by rw [h0]; rfl
      have hf := hfill [] (by simp [h0])
      have hf' : Instr.fill (fun i => some (i * E.k, E.k)) #[] vs = some (xs.flatMap E.f).toArray := hf
      simp only [execOp, Instr.buildSlice, hps, underlying, hu, Go.sizeOf, typeInfo, hi, hsz, Sem.run_bind, Result.andThen_ok, Sem.run_pure, c1, h0, if_true, if_false, hf', newRow, run_newObj]
      have e0 : Array.map (fun x => (default : Value)) (Array.range 0) = #[] := by simp
      simp [hu, hi, hsz, h0, e0, hf', newRow]
    · have hf := hfill ((List.range (len * E.k)).map fun j => z.cells[j % z.cells.size]!) (by simp)
      have he : ((Array.range (len * E.k)).map fun j => z.cells[j % z.cells.size]!) = ((List.range (len * E.k)).map fun j => z.cells[j % z.cells.size]!).toArray := by apply Array.ext'; simp
      have h0' : ¬ (len = 0 ∨ E.k = 0) := fun h => h0 (Nat.mul_eq_zero.2 h)
      have c1' : ¬ (2 ^ 24 < len * E.k) := c1
      simp [execOp, Instr.buildSlice, hps, underlying, hu, Go.sizeOf, typeInfo, hi, hsz, zeroValue, hz, newRow]
      rw [if_neg (by omega), if_neg h0]
      rw [he, hf]
      rfl
  · have := sl_shut (E := E) (b := w.heap.size) (xs := xs) (cap := len) (off := 0) (pre := []) (post := []) (by omega) rfl (by rw [hl]; simp) hh (by simpa using hpt)
    rw [← hl] at this
    exact this

/-! ## copy -/
theorem putL_take : ∀ (vs a b c : List Value), vs.length = b.length → putL (a ++ (b ++ c)) a.length vs = a ++ (vs ++ c) := putL_mid

theorem xo_copy {x y : Operand} {t t2 : TypeId} {lo : Nat} {zs : List α} (hx : env.ev x = some (subv E.k lo xs.length s)) (hy : env.ev y = some u) [m : HasSl L s α E xs R] [m2 : Rd L u α E ys]
    (ht : sliceB P t E.T E.k = true) (hlo : lo ≤ xs.length) (hz : zs = ys.take (xs.length - lo)) :
    XO P g n env L ⟨dst, .call ⟨.builtin .copy, #[x, y], #[t, t2]⟩, ty, pos, af, gd⟩ (fun v M => v = .int .i64 zs.length ∧ M = Sl E s (xs.take lo ++ (zs ++ xs.drop (lo + zs.length))) :: R) := by
  intro a w fa fw
  obtain ⟨hu, ii, hii, hs⟩ := sliceB_und ht
  obtain ⟨uad, ucap, hul, -⟩ := rd_len' (E := E) (xs := ys) (v := u) fw m2
  have hmin : Nat.min ys.length (xs.length - lo) = zs.length := by rw [hz, List.length_take]; exact Nat.min_comm _ _
  have hzl : zs.length ≤ ys.length := by rw [hz, List.length_take]; exact Nat.min_le_right _ _
  have hzl2 : zs.length ≤ xs.length - lo := by rw [hz, List.length_take]; exact Nat.min_le_left _ _
  have hnew : (Builtin.firstCells E.k zs.length u).run P w = .ok (zs.flatMap E.f).toArray w := by
    have hsub := rd_sub (E := E) (s := u) (xs := ys) (L := L) 0 zs.length (by omega) hzl
    have hzz : (ys.take zs.length).drop 0 = zs := by
      rw [List.drop_zero, hz, List.length_take]
      rw [List.take_eq_take_iff]; omega
    rw [hzz] at hsub
    have := run_firstCells (P := P) (E := E) (xs := zs) (v := subv E.k 0 zs.length u) (m := hsub) fw
    subst hul
    rcases m2.out _ fw.sat with ⟨e, e'⟩ | ⟨b, off, cap, e1, e5, e2⟩
    · subst e'
      have : zs = [] := List.eq_nil_of_length_eq_zero (by simpa using hzl)
      subst this
      simp only [Value.slice.injEq] at e
      obtain ⟨rfl, -, -⟩ := e
      simp [Builtin.firstCells]
    · simp only [Value.slice.injEq] at e1
      obtain ⟨rfl, -, rfl⟩ := e1
      simp only [subv, Option.map_some, Nat.zero_mul, add_off, Nat.add_zero, Nat.sub_zero] at this
      simpa [Builtin.firstCells] using this
  have hlen : (Builtin.lenOf u).run P w = .ok ys.length w := by subst hul; simp [Builtin.lenOf]
  rcases Nat.eq_zero_or_pos xs.length with hx0 | hx0
  · have : xs = [] := List.eq_nil_of_length_eq_zero hx0
    subst this
    have : zs = [] := by simpa using hz
    subst this
    have hlo0 : lo = 0 := by simpa using hlo
    subst hlo0
    have fs := fw.mono m.out
    obtain ⟨ad, cap, hsl, -⟩ := rd_len' (E := E) (xs := ([] : List α)) (v := s) fs inferInstance
    refine ⟨_, _, w, ?_, ⟨rfl, rfl⟩, by simpa using fs⟩
    subst hsl
    have hx' := fa.ev hx
    simp only [subv] at hx'
    simp only [List.length_nil, List.flatMap_nil] at hnew hmin
    obtain ⟨ad', hx''⟩ : ∃ ad', a.eval x = .slice ad' 0 cap := ⟨_, hx'⟩
    cases ad' <;> simp [execOp, resolve, invoke, builtin, hx'', fa.ev hy, Builtin.copy_, underlying, hu, hlen, Go.sizeOf, typeInfo, hii, hs, hnew, storeCells, goInt]
  · obtain ⟨b, off, cap, pre, post, e1, e2, e3, e4, fw'⟩ := sl_open (fw.mono m.out) hx0
    subst e1
    have hx' := fa.ev hx
    simp only [subv, Option.map_some, add_off] at hx'
    have hb : lo * E.k + zs.length * E.k ≤ xs.length * E.k := by rw [← Nat.add_mul]; exact Nat.mul_le_mul_right _ (by omega)
    obtain ⟨w', hr, fw2⟩ := run_storeCells (P := P) (zs.flatMap E.f) _ (off + lo * E.k) 0 w fw' (by simp only [List.length_append, flat_len, e3]; omega) (by
      intro v hv; obtain ⟨y, -, hy⟩ := List.mem_flatMap.1 hv; exact E.one y v hy)
    refine ⟨_, _, w', ?_, ⟨rfl, rfl⟩, fw2.mono fun h => sat_head (fun hh hp => ?_)⟩
    · by_cases hc : cap = lo
      · have hz0 : zs = [] := List.eq_nil_of_length_eq_zero (by omega)
        subst hz0
        simp only [List.flatMap_nil, storeCells, List.length_nil] at hr hnew hmin
        have : w' = w := by simpa using hr.symm
        subst this
        simp [execOp, resolve, invoke, builtin, hx', fa.ev hy, Builtin.copy_, underlying, hu, hlen, Go.sizeOf, typeInfo, hii, hs, hmin, hnew, storeCells, goInt]
        by_cases hcc : cap = lo <;> simp [hcc]
      · simp [execOp, resolve, invoke, builtin, hx', fa.ev hy, Builtin.copy_, underlying, hu, hlen, Go.sizeOf, typeInfo, hii, hs, hc, hmin, hnew, hr, goInt]
    · have e5 : putL (pre ++ (xs.flatMap E.f ++ post)) (off + lo * E.k + 0) (zs.flatMap E.f) = pre ++ ((xs.take lo ++ (zs ++ xs.drop (lo + zs.length))).flatMap E.f ++ post) := by
        have ht := take_drop_flat E xs lo (lo + zs.length) (by omega) (by omega)
        have := putL_mid (zs.flatMap E.f) (pre ++ (xs.take lo).flatMap E.f) (((xs.take (lo + zs.length)).drop lo).flatMap E.f) ((xs.drop (lo + zs.length)).flatMap E.f ++ post) (by rw [flat_len, flat_len, sub_len _ _ _ (by omega)]; congr 1; omega)
        rw [ht]
        simp only [List.length_append, flat_len, List.length_take, Nat.min_eq_left hlo, e3, List.append_assoc, List.flatMap_append, Nat.add_zero] at this ⊢
        exact this
      rw [e5] at hp
      have hll : (xs.take lo ++ (zs ++ xs.drop (lo + zs.length))).length = xs.length := by simp; omega
      have := sl_shut (E := E) (xs := xs.take lo ++ (zs ++ xs.drop (lo + zs.length))) (cap := cap) (off := off) (by omega) e3 (by rw [hll]; exact e4) hh hp
      rw [hll] at this
      exact this
end
end Hd
end
section
namespace Hd
open Go

def isNilS : Value → Bool
  | .slice none _ _ => true
  | _ => false

theorem rd_nil {α : Type} {E : Enc α} {s : Value} {xs : List α} {L : List HP} [m : Rd L s α E xs] (h : isNilS s = true) : ∀ hh, Sat L hh → xs = [] := fun hh hs => by
  rcases m.out hh hs with ⟨-, e'⟩ | ⟨b, off, cap, e1, -⟩
  · exact e'
  · subst e1; simp [isNilS] at h

section
variable {P : Program} {g : Gl} {n : Nat} {env : Env} {L M : List HP} {Q : Exit → Act → World → Prop} {lops l : List Oper} {o : Oper} {d : Nat} {v : Value}
variable {dst : Option Tmp} {ty : TypeId} {pos : String} {af : Array Edge} {gd : Option (Nat × Bool)}
variable {α : Type} {E : Enc α} {s u : Value} {xs ys : List α} {R : List HP}

/-! ## what the memory tells -/
theorem wp_pure {p : Prop} {c : Code} (hp : ∀ h, Sat L h → p) (k : p → WP P g n c Q env L) : WP P g n c Q env L := fun a w fa fw => k (hp _ fw.sat) a w fa fw
theorem ws_pure {p : Prop} (hp : ∀ h, Sat L h → p) (k : p → WS P g n env L lops l Q) : WS P g n env L lops l Q := fun a w fa fw => k (hp _ fw.sat) a w fa fw
theorem at_pure {p : Prop} {e : Exit} (hp : ∀ h, Sat L h → p) (k : p → AT g n e Q env L) : AT g n e Q env L := fun a w fa fw => k (hp _ fw.sat) a w fa fw
theorem wp_ent {M : List HP} {c : Code} (h : ∀ h, Sat L h → Sat M h) (k : WP P g n c Q env M) : WP P g n c Q env L := fun a w fa fw => k a w fa (fw.mono h)
theorem at_ent {M : List HP} {e : Exit} (h : ∀ h, Sat L h → Sat M h) (k : AT g n e Q env M) : AT g n e Q env L := fun a w fa fw => k a w fa (fw.mono h)

/-! ## a slice against nil -/
theorem eqGuard_sl {op : BinOp} {t : TypeId} {x y : Operand} {a b : Option Addr} {i j k m : Nat} {w : World} : (eqGuard op t x y (.slice a i j) (.slice b k m)).run P w = .ok () w := by
  unfold eqGuard; cases op <;> simp
theorem equal_sl {t e : TypeId} {a : Option Addr} {i j : Nat} {w : World} (hu : P.underlying t = some (.slice e)) (d : Nat) : (Op.equalIn (d + 1) t (.slice a i j) (.slice none 0 0)).run P w = .ok a.isNone w := by
  have h : (underlying t).run P w = .ok (.slice e) w := by simp [underlying, hu]
  unfold Op.equalIn
  simp only [Sem.run_bind, h, Result.andThen_ok]
  cases a <;> simp
theorem po_seq {x y : Operand} {t t2 : TypeId} (hx : env.ev x = some s) (hy : env.ev y = some (.slice none 0 0)) [m : Rd L s α E xs] (ht : sliceB P t E.T E.k = true) :
    PO P g n env L ⟨dst, .binOp .eql t x y t2, ty, pos, af, gd⟩ (.bool (isNilS s)) := by
  intro a w fa fw
  obtain ⟨hu, -⟩ := sliceB_und ht
  obtain ⟨ad, cap, rfl, -⟩ := rd_len' (E := E) (xs := xs) (v := s) fw m
  have hb : binOp .eql t (.slice ad xs.length cap) (.slice none 0 0) = (do pure (.bool (← Op.equal t (.slice ad xs.length cap) (.slice none 0 0)))) := by cases ad <;> rfl
  have he : (Op.equal t (.slice ad xs.length cap) (.slice none 0 0)).run P w = .ok ad.isNone w := equal_sl hu 9999
  simp only [execOp, fa.ev hx, fa.ev hy, Sem.run_bind, eqGuard_sl, Result.andThen_ok, hb, he, Sem.run_pure]
  cases ad <;> rfl
theorem po_sne {x y : Operand} {t t2 : TypeId} (hx : env.ev x = some s) (hy : env.ev y = some (.slice none 0 0)) [m : Rd L s α E xs] (ht : sliceB P t E.T E.k = true) :
    PO P g n env L ⟨dst, .binOp .neq t x y t2, ty, pos, af, gd⟩ (.bool (!isNilS s)) := by
  intro a w fa fw
  obtain ⟨hu, -⟩ := sliceB_und ht
  obtain ⟨ad, cap, rfl, -⟩ := rd_len' (E := E) (xs := xs) (v := s) fw m
  have hb : binOp .neq t (.slice ad xs.length cap) (.slice none 0 0) = (do pure (.bool (!(← Op.equal t (.slice ad xs.length cap) (.slice none 0 0))))) := by cases ad <;> rfl
  have he : (Op.equal t (.slice ad xs.length cap) (.slice none 0 0)).run P w = .ok ad.isNone w := equal_sl hu 9999
  simp only [execOp, fa.ev hx, fa.ev hy, Sem.run_bind, eqGuard_sl, Result.andThen_ok, hb, he, Sem.run_pure]
  cases ad <;> rfl

/-! ## structs of three numbers -/
def st3B (P : Program) (t : TypeId) : Bool :=
  match P.underlying t with
  | some (.struct ⟨[a, b, c]⟩) => (a.offset == 0) && (b.offset == 1) && (c.offset == 2) && (a.name != "_") && (b.name != "_") && (c.name != "_") && intB P a.type .i64 && intB P b.type .i64 && intB P c.type .i64 &&
      flatB P a.type && flatB P b.type && flatB P c.type && !P.stoodInHeld t && !P.eqGuardType P.depth t
  | _ => false
theorem st3B_spec {t : TypeId} (h : st3B P t = true) : ∃ a b c : Field, P.underlying t = some (.struct #[a, b, c]) ∧ a.offset = 0 ∧ b.offset = 1 ∧ c.offset = 2 ∧ a.name ≠ "_" ∧ b.name ≠ "_" ∧ c.name ≠ "_" ∧
    intB P a.type .i64 = true ∧ intB P b.type .i64 = true ∧ intB P c.type .i64 = true ∧ flatB P a.type = true ∧ flatB P b.type = true ∧ flatB P c.type = true ∧ P.stoodInHeld t = false ∧ P.eqGuardType P.depth t = false := by
  unfold st3B at h
  split at h
  · rename_i a b c hu
    simp only [Bool.and_eq_true, beq_iff_eq, bne_iff_ne, ne_eq, Bool.not_eq_true'] at h
    obtain ⟨⟨⟨⟨⟨⟨⟨⟨⟨⟨⟨⟨⟨h1, h2⟩, h3⟩, h4⟩, h5⟩, h6⟩, h7⟩, h8⟩, h9⟩, h10⟩, h11⟩, h12⟩, h13⟩, h14⟩ := h
    exact ⟨a, b, c, hu, h1, h2, h3, h4, h5, h6, h7, h8, h9, h10, h11, h12, h13, h14⟩
  · cases h

theorem equal_int {t : TypeId} {p q : Int} {w : World} (h : intB P t .i64 = true) (d : Nat) : (Op.equalIn (d + 1) t (.int .i64 p) (.int .i64 q)).run P w = .ok (p == q) w := by
  have h : (underlying t).run P w = .ok (.int .i64) w := by simp [underlying, intB_spec h]
  unfold Op.equalIn
  simp only [Sem.run_bind, h, Result.andThen_ok, Sem.run_ite, Sem.run_pure, if_true]

theorem equal_st3 {t : TypeId} {p1 p2 p3 q1 q2 q3 : Int} {w : World} (h : st3B P t = true) (d : Nat) :
    (Op.equalIn (d + 2) t (.agg #[.int .i64 p1, .int .i64 p2, .int .i64 p3]) (.agg #[.int .i64 q1, .int .i64 q2, .int .i64 q3])).run P w = .ok (decide (p1 = q1 ∧ p2 = q2 ∧ p3 = q3)) w := by
  obtain ⟨a, b, c, hu, a1, a2, a3, n1, n2, n3, i1, i2, i3, f1, f2, f3, hs, -⟩ := st3B_spec h
  have hund : (underlying t).run P w = .ok (.struct #[a, b, c]) w := by simp [underlying, hu]
  have g1 : ∀ (x y z : Int), (part a.type #[.int .i64 x, .int .i64 y, .int .i64 z] a.offset).run P w = .ok (.int .i64 x) w := fun x y z => by rw [a1]; exact part_flat (cs := [.int .i64 x, .int .i64 y, .int .i64 z]) f1 rfl
  have g2 : ∀ (x y z : Int), (part b.type #[.int .i64 x, .int .i64 y, .int .i64 z] b.offset).run P w = .ok (.int .i64 y) w := fun x y z => by rw [a2]; exact part_flat (cs := [.int .i64 x, .int .i64 y, .int .i64 z]) f2 rfl
  have g3 : ∀ (x y z : Int), (part c.type #[.int .i64 x, .int .i64 y, .int .i64 z] c.offset).run P w = .ok (.int .i64 z) w := fun x y z => by rw [a3]; exact part_flat (cs := [.int .i64 x, .int .i64 y, .int .i64 z]) f3 rfl
  rw [Op.equalIn]
  simp only [Sem.run_bind, hund, Result.andThen_ok]
  by_cases e1 : p1 = q1
  · by_cases e2 : p2 = q2
    · by_cases e3 : p3 = q3
      · simp [hs, n1, n2, n3, g1, g2, g3, equal_int i1, equal_int i2, equal_int i3, e1, e2, e3]
      · simp [hs, n1, n2, n3, g1, g2, g3, equal_int i1, equal_int i2, equal_int i3, e1, e2, e3]
    · simp [hs, n1, n2, n3, g1, g2, g3, equal_int i1, equal_int i2, equal_int i3, e1, e2]
  · simp [hs, n1, n2, n3, g1, g2, g3, equal_int i1, equal_int i2, equal_int i3, e1]

theorem po_st3eq {x y : Operand} {t t2 : TypeId} {p1 p2 p3 q1 q2 q3 : Int} (hx : env.ev x = some (.agg [.int .i64 p1, .int .i64 p2, .int .i64 p3].toArray)) (hy : env.ev y = some (.agg [.int .i64 q1, .int .i64 q2, .int .i64 q3].toArray)) (ht : st3B P t = true) :
    PO P g n env L ⟨dst, .binOp .eql t x y t2, ty, pos, af, gd⟩ (.bool (decide (p1 = q1 ∧ p2 = q2 ∧ p3 = q3))) := by
  intro a w fa fw
  obtain ⟨-, -, -, -, -, -, -, -, -, -, -, -, -, -, -, -, -, hg⟩ := st3B_spec ht
  have hgd : (eqGuard .eql t x y (.agg #[.int .i64 p1, .int .i64 p2, .int .i64 p3]) (.agg #[.int .i64 q1, .int .i64 q2, .int .i64 q3])).run P w = .ok () w := by
    unfold eqGuard; simp [hg]
  have he : (Op.equal t (.agg #[.int .i64 p1, .int .i64 p2, .int .i64 p3]) (.agg #[.int .i64 q1, .int .i64 q2, .int .i64 q3])).run P w = .ok (decide (p1 = q1 ∧ p2 = q2 ∧ p3 = q3)) w := equal_st3 ht 9998
  have hb : ∀ A B : Value, (∃ a, A = .agg a) → (∃ b, B = .agg b) → binOp .eql t A B = (do pure (.bool (← Op.equal t A B))) := by rintro _ _ ⟨a, rfl⟩ ⟨b, rfl⟩; rfl
  simp only [execOp, fa.ev hx, fa.ev hy, Sem.run_bind, hgd, Result.andThen_ok, hb _ _ ⟨_, rfl⟩ ⟨_, rfl⟩, he, Sem.run_pure]
theorem po_st3ne {x y : Operand} {t t2 : TypeId} {p1 p2 p3 q1 q2 q3 : Int} (hx : env.ev x = some (.agg [.int .i64 p1, .int .i64 p2, .int .i64 p3].toArray)) (hy : env.ev y = some (.agg [.int .i64 q1, .int .i64 q2, .int .i64 q3].toArray)) (ht : st3B P t = true) :
    PO P g n env L ⟨dst, .binOp .neq t x y t2, ty, pos, af, gd⟩ (.bool (!decide (p1 = q1 ∧ p2 = q2 ∧ p3 = q3))) := by
  intro a w fa fw
  obtain ⟨-, -, -, -, -, -, -, -, -, -, -, -, -, -, -, -, -, hg⟩ := st3B_spec ht
  have hgd : (eqGuard .neq t x y (.agg #[.int .i64 p1, .int .i64 p2, .int .i64 p3]) (.agg #[.int .i64 q1, .int .i64 q2, .int .i64 q3])).run P w = .ok () w := by
    unfold eqGuard; simp [hg]
  have he : (Op.equal t (.agg #[.int .i64 p1, .int .i64 p2, .int .i64 p3]) (.agg #[.int .i64 q1, .int .i64 q2, .int .i64 q3])).run P w = .ok (decide (p1 = q1 ∧ p2 = q2 ∧ p3 = q3)) w := equal_st3 ht 9998
  have hb : ∀ A B : Value, (∃ a, A = .agg a) → (∃ b, B = .agg b) → binOp .neq t A B = (do pure (.bool (!(← Op.equal t A B)))) := by rintro _ _ ⟨a, rfl⟩ ⟨b, rfl⟩; rfl
  simp only [execOp, fa.ev hx, fa.ev hy, Sem.run_bind, hgd, Result.andThen_ok, hb _ _ ⟨_, rfl⟩ ⟨_, rfl⟩, he, Sem.run_pure]

/-! ## shifts and masks of numbers that are not less than nought -/
theorem po_shr {x y : Operand} {k k' : IntKind} {p : Int} {m : Nat} {t t2 : TypeId} (hx : env.ev x = some (.int k p)) (hy : env.ev y = some (.int k' (m : Int))) (hm : m < k.bits) :
    PO P g n env L ⟨dst, .binOp .shr t x y t2, ty, pos, af, gd⟩ (.int k (p / 2 ^ m)) := by
  intro a w fa fw
  have hg : ∀ X Y, (eqGuard .shr t x y X Y).run P w = .ok () w := by intro X Y; unfold eqGuard; simp
  have h1 : ¬ ((m : Int) < 0) := by omega
  have h2 : min m k.bits = m := Nat.min_eq_left (Nat.le_of_lt hm)
  simp [execOp, fa.ev hx, fa.ev hy, hg, binOp, Op.shift, h1, h2]
  exact Int.fdiv_eq_ediv_of_nonneg _ (Int.le_of_lt (Int.pow_pos (by decide)))
theorem wrap_u64 (x : Int) (h1 : 0 ≤ x) (h2 : x ≤ 18446744073709551615) : IntKind.u64.wrap x = x := by simp [IntKind.wrap, IntKind.bits, IntKind.signed]; omega
theorem wrap_u8 (x : Int) (h1 : 0 ≤ x) (h2 : x ≤ 255) : IntKind.u8.wrap x = x := by simp [IntKind.wrap, IntKind.bits, IntKind.signed]; omega
theorem wrap_u32 (x : Int) (h1 : 0 ≤ x) (h2 : x ≤ 4294967295) : IntKind.u32.wrap x = x := by simp [IntKind.wrap, IntKind.bits, IntKind.signed]; omega
theorem wrap_i32 (x : Int) (h1 : -2147483648 ≤ x) (h2 : x ≤ 2147483647) : IntKind.i32.wrap x = x := IntWalk.i32_in x (by omega)
theorem po_conv_w {x : Operand} {k k' : IntKind} {m : Int} {t t2 : TypeId} (hx : env.ev x = some (.int k m)) (h1 : intB P t k = true) (h2 : intB P t2 k' = true) (hw : k'.wrap m = m) : PO P g n env L ⟨dst, .convert t t2 x, ty, pos, af, gd⟩ (.int k' m) := by
  have := po_conv (P := P) (g := g) (n := n) (L := L) (dst := dst) (ty := ty) (pos := pos) (af := af) (gd := gd) hx h1 h2
  rwa [hw] at this
theorem po_add_w {x y : Operand} {k : IntKind} {p q : Int} {t t2 : TypeId} (hx : env.ev x = some (.int k p)) (hy : env.ev y = some (.int k q)) (hw : k.wrap (p + q) = p + q) : PO P g n env L ⟨dst, .binOp .add t x y t2, ty, pos, af, gd⟩ (.int k (p + q)) := by
  have := po_add (P := P) (g := g) (n := n) (L := L) (dst := dst) (ty := ty) (pos := pos) (af := af) (gd := gd) (t := t) (t2 := t2) hx hy
  rwa [hw] at this
theorem po_sub_w {x y : Operand} {k : IntKind} {p q : Int} {t t2 : TypeId} (hx : env.ev x = some (.int k p)) (hy : env.ev y = some (.int k q)) (hw : k.wrap (p - q) = p - q) : PO P g n env L ⟨dst, .binOp .sub t x y t2, ty, pos, af, gd⟩ (.int k (p - q)) := by
  have := po_sub (P := P) (g := g) (n := n) (L := L) (dst := dst) (ty := ty) (pos := pos) (af := af) (gd := gd) (t := t) (t2 := t2) hx hy
  rwa [hw] at this
theorem po_mul_w {x y : Operand} {k : IntKind} {p q : Int} {t t2 : TypeId} (hx : env.ev x = some (.int k p)) (hy : env.ev y = some (.int k q)) (hw : k.wrap (p * q) = p * q) : PO P g n env L ⟨dst, .binOp .mul t x y t2, ty, pos, af, gd⟩ (.int k (p * q)) := by
  have := po_mul (P := P) (g := g) (n := n) (L := L) (dst := dst) (ty := ty) (pos := pos) (af := af) (gd := gd) (t := t) (t2 := t2) hx hy
  rwa [hw] at this
theorem po_rem_u {x y : Operand} {k : IntKind} {p q : Int} {t t2 : TypeId} (hx : env.ev x = some (.int k p)) (hy : env.ev y = some (.int k q)) (h1 : 0 ≤ p) (h3 : 0 < q) :
    PO P g n env L ⟨dst, .binOp .rem t x y t2, ty, pos, af, gd⟩ (.int k (p % q)) := by
  intro a w fa fw
  have hq : ¬ q = 0 := by omega
  have e : p.tmod q = p % q := Int.tmod_eq_emod_of_nonneg h1
  simp [execOp, fa.ev hx, fa.ev hy, guard_int, binOp, Op.intDiv, hq, e]
theorem and32 (p : Nat) (h : p < 4294967296) : ((BitVec.ofInt 64 (p : Int)) &&& (BitVec.ofInt 64 4294967295)).toNat = p := by
  have e1 : BitVec.ofInt 64 (p : Int) = BitVec.ofNat 64 p := by simp [BitVec.ofInt_natCast]
  rw [e1]
  have := Nat.and_two_pow_sub_one_eq_mod p 32
  rw [BitVec.toNat_and]
  have e2 : (BitVec.ofInt 64 4294967295).toNat = 2 ^ 32 - 1 := by decide
  rw [e2, BitVec.toNat_ofNat, Nat.mod_eq_of_lt (by omega), this, Nat.mod_eq_of_lt (by omega)]
theorem po_and32 {x y : Operand} {p : Int} {t t2 : TypeId} (hx : env.ev x = some (.int .u64 p)) (hy : env.ev y = some (.int .u64 4294967295)) (h0 : 0 ≤ p) (h1 : p < 4294967296) :
    PO P g n env L ⟨dst, .binOp .and t x y t2, ty, pos, af, gd⟩ (.int .u64 p) := by
  intro a w fa fw
  obtain ⟨p', rfl⟩ : ∃ p' : Nat, p = p' := ⟨p.toNat, by omega⟩
  have ha := and32 p' (by omega)
  have hw : IntKind.u64.wrap (p' : Int) = p' := by simp [IntKind.wrap, IntKind.bits, IntKind.signed]; omega
  have hr : (Op.intBits .and .u64 (p' : Int) 4294967295).run P w = .ok (.int .u64 p') w := by
    show Result.ok (Value.int .u64 (IntKind.u64.wrap (((BitVec.ofInt 64 (p' : Int)) &&& (BitVec.ofInt 64 4294967295)).toNat : Int))) w = _
    rw [ha, hw]
  have hb : binOp .and t (.int .u64 (p' : Int)) (.int .u64 4294967295) = Op.intBits .and .u64 (p' : Int) 4294967295 := rfl
  simp only [execOp, fa.ev hx, fa.ev hy, Sem.run_bind, guard_int, Result.andThen_ok, hb, hr, Sem.run_pure]

/-! ## clear -/
theorem so_clear {x : Operand} {t : TypeId} {lo : Nat} {zs : List Value} (z : α) (hx : env.ev x = some (subv E.k lo xs.length s)) [m : HasSl L s α E xs R] (ht : sliceB P t E.T E.k = true) (hz : zeroB P E.T = some zs) (hzs : zs = E.f z) (hlo : lo ≤ xs.length) :
    XO P g n env L ⟨dst, .call ⟨.builtin .clear, #[x], #[t]⟩, ty, pos, af, gd⟩ (fun v M => v = .tuple #[] ∧ M = Sl E s (xs.take lo ++ List.replicate (xs.length - lo) z) :: R) := by
  intro a w fa fw
  obtain ⟨hu, ii, hii, hs⟩ := sliceB_und ht
  obtain ⟨zv, hzr, hzc⟩ := run_zero (w := w) hz
  by_cases h0 : xs.length - lo = 0
  · have hfull : xs.take lo ++ List.replicate (xs.length - lo) z = xs := by rw [h0, List.replicate_zero, List.append_nil, List.take_of_length_le (by omega)]
    obtain ⟨ad, cap, hsl, -⟩ := rd_len' (E := E) (xs := xs) (v := s) fw inferInstance
    refine ⟨_, _, w, ?_, ⟨rfl, rfl⟩, by rw [hfull]; exact fw.mono m.out⟩
    subst hsl
    have hx' := fa.ev hx
    simp only [subv, h0] at hx'
    obtain ⟨ad', cap', hx''⟩ : ∃ ad' cap', a.eval x = .slice ad' 0 cap' := ⟨_, _, hx'⟩
    cases ad' <;> simp [execOp, resolve, invoke, builtin, hx'', Builtin.clear_, underlying, hu]
  · obtain ⟨b, off, cap, pre, post, e1, e2, e3, e4, fw'⟩ := sl_open (fw.mono m.out) (i := lo) (by omega)
    subst e1
    have hc : ¬ cap = lo := by omega
    have hx' := fa.ev hx
    simp only [subv, Option.map_some, add_off, hc, if_false] at hx'
    have hfl : (List.replicate (xs.length - lo) z).flatMap E.f = (Builtin.zeroCells zv.cells (xs.length - lo)).toList := by
      rw [flat_rep]
      have hl : (E.f z).length = E.k := E.len z
      have hpos : 0 < (E.f z).length := by rw [hl]; exact E.pos
      apply List.ext_getElem?
      intro i
      simp only [Builtin.zeroCells, hzc, hzs]
      by_cases hi : i < (xs.length - lo) * (E.f z).length
      · rw [rep_get hpos _ i hi]
        have : i % (E.f z).length < (E.f z).length := Nat.mod_lt _ hpos
        simp [this, hi]
      · have hi' : (xs.length - lo) * (E.f z).length ≤ i := Nat.le_of_not_lt hi
        rw [List.getElem?_eq_none (by rw [← flat_rep, flat_len, List.length_replicate, ← hl]; exact hi'), List.getElem?_eq_none (by simpa using hi')]
    have hb : lo * E.k + (xs.length - lo) * E.k = xs.length * E.k := by rw [← Nat.add_mul, Nat.add_sub_cancel' hlo]
    obtain ⟨w', hr, fw2⟩ := run_storeCells (P := P) ((List.replicate (xs.length - lo) z).flatMap E.f) _ (off + lo * E.k) 0 w fw' (by simp only [List.length_append, flat_len, e3, List.length_replicate]; omega) (by
      intro v hv; obtain ⟨y, -, hy⟩ := List.mem_flatMap.1 hv; exact E.one y v hy)
    refine ⟨_, _, w', ?_, ⟨rfl, rfl⟩, fw2.mono fun h => sat_head (fun hh hp => ?_)⟩
    · rw [hfl] at hr
      obtain ⟨q, hq⟩ : ∃ q, xs.length - lo = q + 1 := ⟨xs.length - lo - 1, by omega⟩
      rw [hq] at hx' hr
      simp [execOp, resolve, invoke, builtin, hx', Builtin.clear_, underlying, hu, hzr, hr]
    · have e5 : putL (pre ++ (xs.flatMap E.f ++ post)) (off + lo * E.k + 0) ((List.replicate (xs.length - lo) z).flatMap E.f) = pre ++ ((xs.take lo ++ List.replicate (xs.length - lo) z).flatMap E.f ++ post) := by
        have ht := take_drop_flat E xs lo xs.length (by omega) (by omega)
        have := putL_mid ((List.replicate (xs.length - lo) z).flatMap E.f) (pre ++ (xs.take lo).flatMap E.f) (((xs.take xs.length).drop lo).flatMap E.f) ((xs.drop xs.length).flatMap E.f ++ post) (by rw [flat_len, flat_len, sub_len _ _ _ (by omega)]; simp)
        rw [ht]
        simp only [List.length_append, flat_len, List.length_take, Nat.min_eq_left hlo, e3, List.append_assoc, List.flatMap_append, Nat.add_zero, List.drop_length, List.flatMap_nil, List.nil_append] at this ⊢
        exact this
      rw [e5] at hp
      have hll : (xs.take lo ++ List.replicate (xs.length - lo) z).length = xs.length := by simp; omega
      have := sl_shut (E := E) (xs := xs.take lo ++ List.replicate (xs.length - lo) z) (cap := cap) (off := off) (by omega) e3 (by rw [hll]; exact e4) hh hp
      rw [hll] at this
      exact this

theorem subv_full {α : Type} {E : Enc α} {s : Value} {xs : List α} {L : List HP} {h : Frag} (m : Rd L s α E xs) (hs : Sat L h) : subv E.k 0 xs.length s = s := by
  rcases m.out h hs with ⟨e, e'⟩ | ⟨b, off, cap, e1, -, -⟩
  · subst e e'; simp [subv]
  · subst e1; simp [subv, add_off]
/-- copy into a whole slice -/
theorem xo_copy0 {x y : Operand} {t t2 : TypeId} {zs : List α} (hx : env.ev x = some s) (hy : env.ev y = some u) [m : HasSl L s α E xs R] [m2 : Rd L u α E ys]
    (ht : sliceB P t E.T E.k = true) (hz : zs = ys.take xs.length) :
    XO P g n env L ⟨dst, .call ⟨.builtin .copy, #[x, y], #[t, t2]⟩, ty, pos, af, gd⟩ (fun v M => v = .int .i64 zs.length ∧ M = Sl E s (zs ++ xs.drop zs.length) :: R) := by
  intro a w fa fw
  have hf := subv_full (E := E) (s := s) (xs := xs) inferInstance fw.sat
  have := xo_copy (P := P) (g := g) (n := n) (env := env) (dst := dst) (ty := ty) (pos := pos) (af := af) (gd := gd) (x := x) (y := y) (t := t) (t2 := t2) (E := E) (xs := xs) (L := L) (s := s) (u := u) (ys := ys) (zs := zs) (R := R) (lo := 0) (by rw [hf]; exact hx) hy ht (Nat.zero_le _) (by simpa using hz) a w fa fw
  simpa using this
end
end Hd
end
section
namespace Hd
open Go

/-- v fills one cell -/
class One (L : List HP) (v : Value) : Prop where
  out : ∀ h, Sat L h → v.oneCell' = true
instance One.int (L : List HP) (k : IntKind) (x : Int) : One L (.int k x) := ⟨fun _ _ => rfl⟩
instance One.bool (L : List HP) (x : Bool) : One L (.bool x) := ⟨fun _ _ => rfl⟩
instance One.ptr (L : List HP) (x : Option Addr) : One L (.pointer x) := ⟨fun _ _ => rfl⟩
instance One.map (L : List HP) (x : Option Nat) : One L (.map x) := ⟨fun _ _ => rfl⟩
instance One.slice (L : List HP) (a : Option Addr) (i j : Nat) : One L (.slice a i j) := ⟨fun _ _ => rfl⟩
instance (priority := low) One.rd {α : Type} (L : List HP) (v : Value) (E : Enc α) (xs : List α) [m : Rd L v α E xs] : One L v := ⟨fun h hs => by
  rcases m.out h hs with ⟨e, -⟩ | ⟨b, off, cap, e, -, -⟩ <;> subst e <;> rfl⟩
instance (priority := low) One.sub {α : Type} (L : List HP) (v : Value) (E : Enc α) (xs : List α) (k lo hi : Nat) [m : Rd L v α E xs] : One L (subv k lo hi v) := ⟨fun h hs => by
  rcases m.out h hs with ⟨e, -⟩ | ⟨b, off, cap, e, -, -⟩ <;> subst e <;> rfl⟩
class Ones (L : List HP) (vs : List Value) : Prop where
  out : ∀ h, Sat L h → ∀ v ∈ vs, v.oneCell' = true
instance Ones.nil (L : List HP) : Ones L [] := ⟨fun _ _ _ h => by cases h⟩
instance Ones.cons (L : List HP) (v : Value) (vs : List Value) [a : One L v] [b : Ones L vs] : Ones L (v :: vs) := ⟨fun h hs u hu => by
  rcases List.mem_cons.1 hu with e | e
  · subst e; exact a.out h hs
  · exact b.out h hs u e⟩

/-! ## lists within lists -/
theorem all_cons {x : HP} {xs L : List HP} {h : Frag} : Sat (All (x :: xs) :: L) h ↔ Sat (x :: All xs :: L) h :=
  ⟨fun s => sat_tail (fun _ => sat_all.2) (sat_all.1 s : Sat (x :: (xs ++ L)) h), fun s => sat_all.2 (sat_tail (fun _ => sat_all.1) s : Sat (x :: (xs ++ L)) h)⟩
theorem all_nil {L : List HP} {h : Frag} : Sat (All [] :: L) h ↔ Sat L h := sat_all
instance (priority := low) Has.allCons (x A : HP) (xs L R : List HP) [t : Has (x :: All xs :: L) A R] : Has (All (x :: xs) :: L) A R := ⟨fun h s => t.out h (all_cons.1 s)⟩
instance (priority := low) HasPt.allCons (x : HP) (xs L R : List HP) (b : Nat) (o : Obj) [t : HasPt (x :: All xs :: L) b o R] : HasPt (All (x :: xs) :: L) b o R := ⟨fun h s => t.out h (all_cons.1 s)⟩
instance (priority := low) HasSl.allCons {α : Type} (x : HP) (xs L R : List HP) (v : Value) (E : Enc α) (l : List α) [t : HasSl (x :: All xs :: L) v α E l R] : HasSl (All (x :: xs) :: L) v α E l R := ⟨fun h s => t.out h (all_cons.1 s)⟩
/-- a list as one -/
instance (priority := low) Has.allOf (L X R : List HP) [t : Takes L X R] : Has L (All X) R := ⟨fun h s => sat_all.2 (t.out h s)⟩

section
variable {P : Program} {g : Gl} {n : Nat} {env : Env} {L M : List HP} {Q : Exit → Act → World → Prop} {lops l : List Oper} {o : Oper} {d : Nat} {v : Value}
variable {dst : Option Tmp} {ty : TypeId} {pos : String} {af : Array Edge} {gd : Option (Nat × Bool)}
variable {α : Type} {E : Enc α} {s u : Value} {xs ys : List α} {R : List HP}

theorem so_store1 {t : TypeId} {x y : Operand} {b off : Nat} {cs cs' : List Value} {T : TypeId} {R : List HP} (hx : env.ev x = some (.pointer (some ⟨b, off, none⟩))) (hy : env.ev y = some v) (ht : flatB P t = true)
    [h1 : One L v] [m : HasPt L b (.cells cs.toArray T (0, 0)) R] [s : SetL cs off v cs'] (hlt : Nat.blt off cs.length = true) : SO P g n env L ⟨dst, .store t x y, ty, pos, af, gd⟩ (Blk b T cs' :: R) :=
  fun a w fa fw => so_store hx hy ht (h1.out _ fw.sat) hlt a w fa fw
theorem so_storea1 {t : TypeId} {x y : Operand} {b off k : Nat} {cs cs' vs : List Value} {T : TypeId} {R : List HP} (hx : env.ev x = some (.pointer (some ⟨b, off, none⟩))) (hy : env.ev y = some (.agg vs.toArray)) (ht : aggB P t k = true)
    (hk : vs.length = k) [h1 : Ones L vs]
    [m : HasPt L b (.cells cs.toArray T (0, 0)) R] [s : PutL cs off vs cs'] (hlt : Nat.ble (off + k) cs.length = true) : SO P g n env L ⟨dst, .store t x y, ty, pos, af, gd⟩ (Blk b T cs' :: R) :=
  fun a w fa fw => so_storea hx hy ht hk (h1.out _ fw.sat) (Nat.le_of_ble_eq_true hlt) a w fa fw
end

theorem Spec.all {P : Program} {f : FuncId} {args : Array Value} {X Y : List HP} {p : Value → Prop} (h : Spec P f args X (fun v M => p v ∧ M = Y)) : Spec P f args [All X] (fun v M => p v ∧ M = [All Y]) := by
  refine ⟨h.enters, fun g F w fw => ?_⟩
  have fw' : Fit g (X ++ [F]) w := fw.mono fun _ s => sat_all.1 s
  refine (h.calls g F w fw').mono ?_
  rintro e w' ⟨v, M, rfl, ⟨hp, rfl⟩, fm⟩
  exact ⟨v, _, rfl, ⟨hp, rfl⟩, fm.mono fun _ s => (sat_all.2 s : Sat (All _ :: [F]) _)⟩
theorem Spec.post {P : Program} {f : FuncId} {args : Array Value} {X : List HP} {p q : Value → List HP → Prop} (h : Spec P f args X p) (k : ∀ v M, p v M → q v M) : Spec P f args X q :=
  ⟨h.enters, fun g F w fw => (h.calls g F w fw).mono fun _ _ ⟨v, M, e, hp, fm⟩ => ⟨v, M, e, k v M hp, fm⟩⟩
theorem take_snoc {α : Type} (l : List α) (k : Nat) (h : k < l.length) : l.take (k + 1) = l.take k ++ [l[k]] := by simp

/-! ## build, of parts that are known by the memory -/
class LaidP (L : List HP) (places : List (Nat × Nat × Nat)) (vs : List (Nat × Value)) (ls : outParam (List (Nat × List Value))) : Prop where
  out : ∀ h, Sat L h → laidL places vs = ls
instance LaidP.nil (L : List HP) : LaidP L [] [] [] := ⟨fun _ _ => rfl⟩
instance (priority := high) LaidP.agg (L : List HP) (i j off k : Nat) (cs : List Value) (r : List (Nat × Nat × Nat)) (vs : List (Nat × Value)) (ls : List (Nat × List Value)) [t : LaidP L r vs ls] :
    LaidP L ((i, off, k) :: r) ((j, .agg cs.toArray) :: vs) ((off, cs) :: ls) := ⟨fun h s => by simp [laidL, cellsL, t.out h s]⟩
instance (priority := low) LaidP.one (L : List HP) (i j off k : Nat) (v : Value) (r : List (Nat × Nat × Nat)) (vs : List (Nat × Value)) (ls : List (Nat × List Value)) [a : One L v] [t : LaidP L r vs ls] :
    LaidP L ((i, off, k) :: r) ((j, v) :: vs) ((off, [v]) :: ls) := ⟨fun h s => by
  have := a.out h s
  simp only [laidL, t.out h s]
  cases v <;> simp [Value.oneCell'] at this <;> rfl⟩
class FillC (cs : List Value) (ls : List (Nat × List Value)) (r : outParam (List Value)) : Prop where
  out : fillL cs ls = r
instance FillC.nil (cs : List Value) : FillC cs [] cs := ⟨rfl⟩
instance FillC.cons (cs cs' r vs : List Value) (off : Nat) (ls : List (Nat × List Value)) [p : PutL cs off vs cs'] [t : FillC cs' ls r] : FillC cs ((off, vs) :: ls) r := ⟨by rw [fillL, ← p.out, t.out]⟩
def fits1 : List (Nat × Nat × Nat) → List (Nat × Value) → List (Nat × List Value) → Nat → Bool
  | [], [], [], _ => true
  | (i, off, k) :: r, (j, _) :: vs, (_, l) :: ls, m => Nat.beq i j && Nat.beq l.length k && Nat.ble (off + k) m && fits1 r vs ls m
  | _, _, _, _ => false
theorem fits1_fits : ∀ (ps : List (Nat × Nat × Nat)) (vs : List (Nat × Value)) (ls : List (Nat × List Value)) (m : Nat), laidL ps vs = ls → fits1 ps vs ls m = true → fitsB ps vs m = true
  | [], [], _, m, _, _ => rfl
  | [], _ :: _, ls, m, _, h => by cases ls <;> simp [fits1] at h
  | _ :: _, [], ls, m, _, h => by cases ls <;> simp [fits1] at h
  | (i, off, k) :: r, (j, v) :: vs, [], m, _, h => by simp [fits1] at h
  | (i, off, k) :: r, (j, v) :: vs, (o, l) :: ls, m, e, h => by
    simp only [laidL, List.cons.injEq, Prod.mk.injEq] at e
    obtain ⟨⟨-, rfl⟩, e⟩ := e
    simp only [fits1, Bool.and_eq_true] at h
    simp only [fitsB, Bool.and_eq_true]
    exact ⟨h.1, fits1_fits r vs ls m e h.2⟩
section
variable {P : Program} {g : Gl} {n : Nat} {env : Env} {L M : List HP} {Q : Exit → Act → World → Prop} {lops l : List Oper} {o : Oper} {d : Nat} {v : Value}
variable {dst : Option Tmp} {ty : TypeId} {pos : String} {af : Array Edge} {gd : Option (Nat × Bool)}
theorem po_build1 {t : TypeId} {ps : List (Nat × Operand)} {vs : List (Nat × Value)} {zs cs : List Value} {places : List (Nat × Nat × Nat)} {ls : List (Nat × List Value)} (hv : partsOf env ps = some vs) (hz : zeroB P t = some zs) (hp : placesB P t places = true) (hi : allInfoB P t = true)
    [lp : LaidP L places vs ls] [fc : FillC zs ls cs] (hf : fits1 places vs ls zs.length = true) : PO P g n env L ⟨dst, .build t ps.toArray, ty, pos, af, gd⟩ (.agg cs.toArray) := by
  intro a w fa fw
  have e := lp.out _ fw.sat
  have := po_build (P := P) (g := g) (n := n) (env := env) (L := L) (dst := dst) (ty := ty) (pos := pos) (af := af) (gd := gd) hv hz hp hi (fits1_fits places vs ls _ e hf) a w fa fw
  rw [e, fc.out] at this
  exact this
end
end Hd
end
section
namespace Hd
open Go
instance SetL.z00 (a v : Value) (l : List Value) : SetL (a :: l) (0 + 0) v (v :: l) := ⟨by simp⟩
instance SetL.z000 (a v : Value) (l : List Value) : SetL (a :: l) (0 + 0 + 0) v (v :: l) := ⟨by simp⟩
section
variable {P : Program} {g : Gl} {n : Nat} {env : Env} {L M : List HP} {Q : Exit → Act → World → Prop} {lops l : List Oper} {o : Oper} {d : Nat} {v : Value}
variable {dst : Option Tmp} {ty : TypeId} {pos : String} {af : Array Edge} {gd : Option (Nat × Bool)}
variable {α : Type} {E : Enc α} {s u : Value} {xs ys : List α} {R : List HP}
/-- an array of given elements -/
theorem po_build_arr (E : Enc α) (xs : List α) {t len : Nat} {ps : List (Nat × Operand)} {vs : List (Nat × Value)} {zs cs : List Value} (hv : partsOf env ps = some vs) (ht : arrB P t len E.T E.k = true) (hz : zeroB P t = some zs)
    (hb : BS E 0 vs xs) (hl : zs.length = xs.length * E.k) (hc : xs.flatMap E.f = cs) : PO P g n env L ⟨dst, .build t ps.toArray, ty, pos, af, gd⟩ (.agg cs.toArray) := by
  intro a w fa fw
  obtain ⟨z, hzr, hzc⟩ := run_zero (w := w) hz
  obtain ⟨hu, ii, hii, hs⟩ := arrB_spec ht
  have hm := partsOf_map fa hv
  have hps : (ps.toArray.map fun (i, x) => (i, a.eval x)) = vs.toArray := by rw [List.map_toArray, hm]
  have hf := bs_fill vs xs [] zs 0 hb (by simp) hl
  simp only [List.nil_append] at hf
  simp only [execOp, Instr.build, hps, Sem.run_bind, hzr, Result.andThen_ok, underlying, run_program, hu, Sem.run_pure, Go.sizeOf, typeInfo, hii, hs, hzc, hf, hc]
end

/-! ## one cell of a block -/
def At (b off : Nat) (v : Value) : HP := fun h => ∃ cs T fr, Pt b (.cells cs T fr) h ∧ cs[off]? = some v
class NthC (l : List Value) (i : Nat) (v : outParam Value) : Prop where
  out : nth l i = some v
instance NthC.zero (a : Value) (l : List Value) : NthC (a :: l) 0 a := ⟨rfl⟩
instance NthC.succ (a v : Value) (l : List Value) (i : Nat) [t : NthC l i v] : NthC (a :: l) (i + 1) v := ⟨t.out⟩
instance (priority := low) Has.atOf (L R : List HP) (b off : Nat) (cs : List Value) (T : TypeId) (fr : Nat × Nat) (v : Value) [m : HasPt L b (.cells cs.toArray T fr) R] [t : NthC cs off v] : Has L (At b off v) R := ⟨fun h s => by
  refine sat_head (fun hh hp => ⟨_, T, fr, hp, ?_⟩) (m.out h s)
  have := t.out
  rw [nth_eq] at this
  simpa using this⟩
section
variable {P : Program} {g : Gl} {n : Nat} {env : Env} {L M : List HP} {v : Value}
variable {dst : Option Tmp} {ty : TypeId} {pos : String} {af : Array Edge} {gd : Option (Nat × Bool)}
theorem po_load_at {t : TypeId} {x : Operand} {b off : Nat} {R : List HP} (hx : env.ev x = some (.pointer (some ⟨b, off, none⟩))) (ht : flatB P t = true) [m : Has L (At b off v) R] : PO P g n env L ⟨dst, .load t x, ty, pos, af, gd⟩ v := by
  intro a w fa fw
  obtain ⟨h1, h2, j, ⟨cs, T, fr, hp, hc⟩, -⟩ := m.out _ fw.sat
  have hb := j.sub_left _ _ hp.1
  simp only [frag] at hb
  have hcell : w.cell? ⟨b, off, none⟩ = some v := by simp [World.cell?, hb, hc]
  simp [execOp, fa.ev hx, Instr.loadAt, Instr.sureAddr, loadVar, isAgg_flat ht, hcell]
end

/-- a join at which what stays is read off the frame ahead of it -/
theorem r_joink {P : Program} {g : Gl} {n : Nat} {env : Env} {L : List HP} {Q : Exit → Act → World → Prop} {S : Type} (U : S → Env) (K : Env) (H : S → List HP) (I : S → Prop) {x z : Code} (_ : SubE env K)
    (h : WP P g n x (Exit.then (Joined g n U K H I) Q) env L) (k : ∀ s, I s → WP P g n z Q (U s ++ K) (H s)) : WP P g n (.seq x z) Q env L := r_join U K H I h k

section
variable {P : Program} {g : Gl} {n : Nat} {env : Env} {L M : List HP} {Q : Exit → Act → World → Prop} {lops l : List Oper} {o : Oper} {d : Nat} {v : Value} {late : List Nat} {L0 : List HP} {listed : Array Bool} {r : List (Nat × Nat)} {i : Nat}
/-- a reading operation that is not carried out -/
theorem o_nor (ho : nth lops i = some o) (hS : ∀ h, Sat L h → Sat L0 h) (hw : wantE lops env o = some false) (hd : o.dst = some d) (hn : Nat.blt d n = true)
    (k : WO P g n ((d, undef) :: env) L lops late L0 r (listed.setIfInBounds i true) Q) : WO P g n env L lops late L0 ((i, 0) :: r) listed Q := fun a w fa fw =>
  ⟨o, undef, nth_arr ho, yi_no fa hw, fw.mono hS, by rw [hd]; exact k _ w (fa.put hn undef) fw⟩
theorem o_nor0 (ho : nth lops i = some o) (hS : ∀ h, Sat L h → Sat L0 h) (hw : wantE lops env o = some false) (hd : o.dst = none)
    (k : WO P g n env L lops late L0 r (listed.setIfInBounds i true) Q) : WO P g n env L lops late L0 ((i, 0) :: r) listed Q := fun a w fa fw =>
  ⟨o, undef, nth_arr ho, yi_no fa hw, fw.mono hS, by rw [hd]; exact k _ w fa fw⟩
end
end Hd
end
section
namespace Hd
open Go
/-! ## a region in which several may come up -/
def okRd (ops : Array Oper) (late : List Nat) (listed : Array Bool) (i : Nat) : Bool := (Region.ready .any ops listed).contains i && Region.free .any ops listed i && !late.contains i && (late.all fun t => waitsT .any ops ops.size t i)
def okFr (ops : Array Oper) (late : List Nat) (listed : Array Bool) (i : Nat) : Bool := (Region.ready .any ops listed).contains i && Region.free .any ops listed i && !late.contains i

section
variable {P : Program} {g : Gl} {n : Nat} {env : Env} {L M : List HP} {Q : Exit → Act → World → Prop} {lops l : List Oper} {o : Oper} {d : Nat} {v : Value} {late : List Nat} {L0 : List HP} {listed : Array Bool} {i fuel : Nat}

def WT (P : Program) (g : Gl) (n : Nat) (env : Env) (L : List HP) (lops : List Oper) (late : List Nat) (L0 : List HP) (fuel : Nat) (listed : Array Bool) (Q : Exit → Act → World → Prop) : Prop :=
  Region.noSelect lops.toArray = true → Closed .any lops.toArray listed → listed.size = lops.toArray.size → ∀ a w, Fits n env a → Fit g L w → (Fit g [] w ∧ ∀ i, early late listed i = true → Fit g L0 w) →
    wpAnyT P .any lops.toArray (NoPanic Q) late (Fit g []) (Fit g L0) fuel listed a w

theorem r_tree {id : Nat} (late : List Nat) (L0 : List HP) (fuel : Nat) (hm : P.follows .mixedOrders = true) (hB : (Region.noSelect lops.toArray && (fuel == lops.toArray.size)) = true) (h0 : ∀ h, Sat L h → Sat L0 h)
    (k : WT P g n env L lops late L0 fuel (Array.replicate lops.toArray.size false) Q) : WP P g n (.region id lops.toArray true) Q env L := fun a w fa fw => by
  have fd : Fit g L w.drew := ⟨fw.os, fw.tape, fw.output, Nat.le_trans fw.dr (Nat.le_succ _), fw.sat⟩
  simp only [Bool.and_eq_true, beq_iff_eq] at hB
  refine wp_region_noPanic (wp_region_any hm (wpAny_of_T (late := late) (S0 := Fit g []) (S := Fit g L0) _ _ _ _ ?_))
  have := k hB.1 (closed_start _) (by simp) a w.drew fa fd ⟨fd.mono (M := []) fun _ _ => trivial, fun _ _ => fd.mono h0⟩
  rw [hB.2] at this
  exact this
theorem t_nil (he : (Region.ready .any lops.toArray listed).isEmpty = true) (k : AT g n .normal Q env L) : WT P g n env L lops late L0 0 listed Q := fun _ _ _ a w fa fw _ => ⟨by simpa using he, k a w fa fw⟩

theorem t_rdA (hc : okRd lops.toArray late listed i = true) (ho : nth lops i = some o) (hy : ∀ a, Fits n env a → YieldsIf P lops.toArray (Fit g L0) o v a) (hS : ∀ h, Sat L h → Sat L0 h) (hd : o.dst = some d) (hn : Nat.blt d n = true)
    (k : WT P g n ((d, v) :: env) L lops late L0 fuel (listed.setIfInBounds i true) Q) : WT P g n env L lops late L0 (fuel + 1) listed Q := fun hs hcl hz a w fa fw hw => by
  simp only [okRd, Bool.and_eq_true, Bool.not_eq_true'] at hc
  obtain ⟨⟨⟨hr, hf⟩, hl⟩, hwt⟩ := hc
  have ho' := nth_arr ho
  have hri : i ∈ Region.ready .any lops.toArray listed := by simpa using hr
  have hlt : i < listed.size := by rw [hz]; exact (Array.getElem?_eq_some_iff.1 ho').1
  refine wpAnyT_first ho' (Region.noSelect_spec hs) (fun c a w h => h) hl (.inl ⟨rfl, fun j hj => ?_⟩) fuel listed a w hcl hz (Region.free_spec ho' hf) hri (hy a fa) (fw.mono hS) ⟨hw.1, hw.2 i⟩ ?_
  · have := List.all_eq_true.1 hwt j (by simpa using hj)
    simpa using this
  · rw [hd]
    exact k hs (hcl.set hri) (by simpa using hz) _ w (fa.put hn v) fw ⟨hw.1, fun k hk => hw.2 i (early_sub hk hlt)⟩
theorem t_rd (hc : okRd lops.toArray late listed i = true) (ho : nth lops i = some o) (h : PO P g n env L0 o v) (hS : ∀ h, Sat L h → Sat L0 h) (hw : wantE lops env o = some true) (hd : o.dst = some d) (hn : Nat.blt d n = true)
    (k : WT P g n ((d, v) :: env) L lops late L0 fuel (listed.setIfInBounds i true) Q) : WT P g n env L lops late L0 (fuel + 1) listed Q := t_rdA hc ho (fun _ fa => yi_po fa hw h) hS hd hn k
theorem t_nor (hc : okRd lops.toArray late listed i = true) (ho : nth lops i = some o) (hS : ∀ h, Sat L h → Sat L0 h) (hw : wantE lops env o = some false) (hd : o.dst = some d) (hn : Nat.blt d n = true)
    (k : WT P g n ((d, undef) :: env) L lops late L0 fuel (listed.setIfInBounds i true) Q) : WT P g n env L lops late L0 (fuel + 1) listed Q := t_rdA hc ho (fun _ fa => yi_no fa hw) hS hd hn k
theorem t_frA (hc : okFr lops.toArray late listed i = true) (ho : nth lops i = some o) (hy : ∀ a, Fits n env a → YieldsIf P lops.toArray (Fit g []) o v a) (hd : o.dst = some d) (hn : Nat.blt d n = true)
    (k : WT P g n ((d, v) :: env) L lops late L0 fuel (listed.setIfInBounds i true) Q) : WT P g n env L lops late L0 (fuel + 1) listed Q := fun hs hcl hz a w fa fw hw => by
  simp only [okFr, Bool.and_eq_true, Bool.not_eq_true'] at hc
  obtain ⟨⟨hr, hf⟩, hl⟩ := hc
  have ho' := nth_arr ho
  have hri : i ∈ Region.ready .any lops.toArray listed := by simpa using hr
  have hlt : i < listed.size := by rw [hz]; exact (Array.getElem?_eq_some_iff.1 ho').1
  refine wpAnyT_first ho' (Region.noSelect_spec hs) (fun c a w h => h) hl (.inr rfl) fuel listed a w hcl hz (Region.free_spec ho' hf) hri (hy a fa) hw.1 ⟨hw.1, hw.2 i⟩ ?_
  rw [hd]
  exact k hs (hcl.set hri) (by simpa using hz) _ w (fa.put hn v) fw ⟨hw.1, fun k hk => hw.2 i (early_sub hk hlt)⟩
theorem t_fr (hc : okFr lops.toArray late listed i = true) (ho : nth lops i = some o) (h : PO P g n env [] o v) (hw : wantE lops env o = some true) (hd : o.dst = some d) (hn : Nat.blt d n = true)
    (k : WT P g n ((d, v) :: env) L lops late L0 fuel (listed.setIfInBounds i true) Q) : WT P g n env L lops late L0 (fuel + 1) listed Q := t_frA hc ho (fun _ fa => yi_po fa hw h) hd hn k
theorem t_no (hc : okFr lops.toArray late listed i = true) (ho : nth lops i = some o) (hw : wantE lops env o = some false) (hd : o.dst = some d) (hn : Nat.blt d n = true)
    (k : WT P g n ((d, undef) :: env) L lops late L0 fuel (listed.setIfInBounds i true) Q) : WT P g n env L lops late L0 (fuel + 1) listed Q := t_frA hc ho (fun _ fa => yi_no fa hw) hd hn k

/-- one of those that may come up -/
def TB (P : Program) (g : Gl) (n : Nat) (env : Env) (L : List HP) (lops : List Oper) (late : List Nat) (L0 : List HP) (fuel : Nat) (listed : Array Bool) (Q : Exit → Act → World → Prop) (j : Nat) : Prop :=
  ∃ o, nth lops j = some o ∧ ST P g n env L lops o (fun env' L' => (early late listed j = true → ∀ h, Sat L' h → Sat L0 h) ∧ WT P g n env' L' lops late L0 fuel (listed.setIfInBounds j true) Q)
theorem t_br (js : List Nat) (hr : Region.ready .any lops.toArray listed = js) (hne : js ≠ []) (k : ∀ j ∈ js, TB P g n env L lops late L0 fuel listed Q j) : WT P g n env L lops late L0 (fuel + 1) listed Q := fun hs hcl hz a w fa fw hw => by
  refine ⟨fun h0 => absurd (hr ▸ h0) hne, fun j hj => ?_⟩
  obtain ⟨o, ho, hk⟩ := k j (by rw [← hr]; exact hj)
  have hri := hj
  have hlt : j < listed.size := by rw [hz]; exact (Array.getElem?_eq_some_iff.1 (nth_arr ho)).1
  have := hk (NoPanic Q) (fun a' w' => (Fit g [] w' ∧ (early late listed j = true → Fit g L0 w')) ∧ wpAnyT P .any lops.toArray (NoPanic Q) late (Fit g []) (Fit g L0) fuel (listed.setIfInBounds j true) a' w')
    (fun env' L' h a' w' fa' fw' => ⟨⟨fw'.mono fun _ _ => trivial, fun he => fw'.mono (h.1 he)⟩,
      h.2 hs (hcl.set hri) (by simpa using hz) a' w' fa' fw' ⟨fw'.mono fun _ _ => trivial, fun k hk => fw'.mono (h.1 (early_sub hk hlt))⟩⟩) a w fa fw
  show wpOp P lops.toArray (NoPanic Q) j _ a w
  unfold wpOp
  rw [nth_arr ho]
  dsimp only
  split
  · rename_i hw; rw [if_pos hw] at this; exact .inl this
  · rename_i hw; rw [if_neg hw] at this; exact this
theorem tb (ho : nth lops i = some o) (k : ST P g n env L lops o (fun env' L' => (early late listed i = true → ∀ h, Sat L' h → Sat L0 h) ∧ WT P g n env' L' lops late L0 fuel (listed.setIfInBounds i true) Q)) : TB P g n env L lops late L0 fuel listed Q i := ⟨o, ho, k⟩
theorem t_st (hr : (Region.ready .any lops.toArray listed == [i]) = true) (ho : nth lops i = some o) (k : ST P g n env L lops o (fun env' L' => (early late listed i = true → ∀ h, Sat L' h → Sat L0 h) ∧ WT P g n env' L' lops late L0 fuel (listed.setIfInBounds i true) Q)) :
    WT P g n env L lops late L0 (fuel + 1) listed Q := t_br [i] (by simpa using hr) (by simp) (fun j hj => by
  have : j = i := by simpa using hj
  subst this; exact ⟨o, ho, k⟩)
theorem t_br2 {j : Nat} (hr : (Region.ready .any lops.toArray listed == [i, j]) = true) (k1 : TB P g n env L lops late L0 fuel listed Q i) (k2 : TB P g n env L lops late L0 fuel listed Q j) : WT P g n env L lops late L0 (fuel + 1) listed Q :=
  t_br [i, j] (by simpa using hr) (by simp) (fun m hm => by
    rcases List.mem_cons.1 hm with e | e
    · subst e; exact k1
    · have : m = j := by simpa using e
      subst this; exact k2)
end
end Hd
end
section
namespace Hd
open Go
def ptrnzB (P : Program) (t : TypeId) : Bool :=
  match P.underlying t with
  | some (.pointer e) => match P.info? e with
    | some i => i.size != 0
    | none => false
  | _ => false
section
variable {P : Program} {g : Gl} {n : Nat} {env : Env} {L M : List HP} {v : Value}
variable {dst : Option Tmp} {ty : TypeId} {pos : String} {af : Array Edge} {gd : Option (Nat × Bool)}
variable {α : Type} {E : Enc α} {s u : Value} {xs ys : List α} {R : List HP}
theorem ptrnz_spec {t : TypeId} (h : ptrnzB P t = true) : ∃ e i, P.underlying t = some (.pointer e) ∧ P.info? e = some i ∧ i.size ≠ 0 := by
  unfold ptrnzB at h
  cases eu : P.underlying t with
  | none => simp [eu] at h
  | some d =>
    cases d <;> simp [eu] at h
    rename_i e
    cases ei : P.info? e with
    | none => simp [ei] at h
    | some i => simp [ei] at h; exact ⟨e, i, rfl, ei, h⟩
theorem equal_ptr2 {t : TypeId} {b : Nat} {o1 o2 : Nat} {w : World} (h : ptrnzB P t = true) (d : Nat) : (Op.equalIn (d + 1) t (.pointer (some ⟨b, o1, none⟩)) (.pointer (some ⟨b, o2, none⟩))).run P w = .ok (decide (o1 = o2)) w := by
  obtain ⟨e, i, hu, hi, hs⟩ := ptrnz_spec h
  have hund : (underlying t).run P w = .ok (.pointer e) w := by simp [underlying, hu]
  have hsz : (Go.sizeOf e).run P w = .ok i.size w := by simp [Go.sizeOf, typeInfo, hi]
  have hsa : (sameAddr ⟨b, o1, none⟩ ⟨b, o2, none⟩).run P w = .ok (decide (o1 = o2)) w := by
    unfold sameAddr
    by_cases e : o1 = o2 <;> simp [e]
  unfold Op.equalIn
  simp only [Sem.run_bind, hund, Result.andThen_ok, hsz, ne_eq, hs, not_false_eq_true, if_true, hsa]
/-- the addresses of two elements of one slice -/
theorem po_pne_sl {x y : Operand} {t t2 : TypeId} {i j : Nat} (hx : env.ev x = some (ead s i E.k 0)) (hy : env.ev y = some (ead s j E.k 0)) [m : Rd L s α E xs] (hi : i < xs.length) (ht : ptrnzB P t = true) :
    PO P g n env L ⟨dst, .binOp .neq t x y t2, ty, pos, af, gd⟩ (.bool (decide (i ≠ j))) := by
  intro a w fa fw
  obtain ⟨b, off, cap, e1, -⟩ := rd_open fw (v := s) (E := E) (xs := xs) hi
  subst e1
  have h1 := fa.ev hx
  have h2 := fa.ev hy
  simp only [ead] at h1 h2
  have hb : ∀ p q, binOp .neq t (.pointer p) (.pointer q) = (do pure (.bool (!(← Op.equal t (.pointer p) (.pointer q))))) := by intro p q; cases p <;> cases q <;> rfl
  have he : (Op.equal t (.pointer (some ⟨b, off + (i * E.k + 0), none⟩)) (.pointer (some ⟨b, off + (j * E.k + 0), none⟩))).run P w = .ok (decide (off + (i * E.k + 0) = off + (j * E.k + 0))) w := equal_ptr2 ht 9999
  have hd : (!decide (off + (i * E.k + 0) = off + (j * E.k + 0))) = decide (i ≠ j) := by
    have hk := E.pos
    by_cases e : i = j
    · subst e; simp
    · have : ¬ off + (i * E.k + 0) = off + (j * E.k + 0) := fun h => e (Nat.eq_of_mul_eq_mul_right hk (by omega))
      rw [decide_eq_false this, decide_eq_true (show i ≠ j from e)]; rfl
  simp only [execOp, h1, h2, Sem.run_bind, eqGuard_ptr, Result.andThen_ok, hb, he, Sem.run_pure, hd]

/-- an empty slice with room -/
theorem xo_make0 (E : Enc α) (z : α) {t B : TypeId} {x y : Operand} {k k' : IntKind} {m : Int} {zs : List Value} (hx : env.ev x = some (.int k 0)) (hy : env.ev y = some (.int k' m)) (ht : sliceB P t E.T E.k = true) (hE : elemB P E.T E.k B = true)
    (hz : zeroB P E.T = some zs) (hzs : zs = E.f z) (h0 : 0 ≤ m) (h1 : m ≤ 9223372036854775807) (hB : B * m ≤ 2 ^ 47) :
    XO P g n env L ⟨dst, .makeSlice t x y, ty, pos, af, gd⟩ (fun v M => M = Sl E v ([] : List α) :: L) := by
  intro a w fa fw
  obtain ⟨hu, -⟩ := sliceB_und ht
  obtain ⟨i, zv, hi, hs, hb, hzv, hzvs⟩ := elemB_spec hE
  obtain ⟨zv', hzr, hzc⟩ := run_zero (w := w) hz
  have hzz : zv' = zv := by
    simp [zeroValue, typeInfo, hi, hzv] at hzr; exact hzr.symm
  subst hzz
  have hund : ∀ w, (underlying t).run P w = .ok (.slice E.T) w := by intro w; simp [underlying, hu]
  have hsz : ∀ w, (Go.sizeOf E.T).run P w = .ok E.k w := by intro w; simp [Go.sizeOf, typeInfo, hi, hs]
  have hti : ∀ w, (typeInfo E.T).run P w = .ok i w := by intro w; simp [typeInfo, hi]
  have hw : IntKind.i64.wrap m = m := wrap_i64 m (by omega) h1
  have hw0 : IntKind.i64.wrap 0 = 0 := wrap_i64 0 (by decide) (by decide)
  have c1 : ¬ (m < 0) := by omega
  have c2 : ¬ (((i.bytes : Nat) : Int) * m > 2 ^ 48) := by rw [hb]; omega
  have hrun : (Instr.makeSlice t (.int k 0) (.int k' m)).run P w = .ok (.slice (some ⟨w.heap.size, 0, none⟩) 0 m.toNat) (w.alloc (.cells ((List.replicate m.toNat z).flatMap E.f).toArray E.T (0, 0))) := by
    by_cases hm : m.toNat * E.k = 0
    · have hm0 : m.toNat = 0 := by
        rcases Nat.mul_eq_zero.1 hm with h | h
        · exact h
        · have := E.pos; omega
      have hmz : m = 0 := by omega
      subst hmz
      have e0 : Array.range 0 = #[] := rfl
      simp [Instr.makeSlice, hund, asInt, asIntOf, hti, hw0, hsz, newRow, e0]
    · have hrow := zero_row E z zv' (by rw [hzc, hzs]) m.toNat
      simp only [Instr.makeSlice, hund, asInt, asIntOf, hti, hw, hw0, hsz, Sem.run_bind, Result.andThen_ok, Sem.run_pure, c1, c2, decide_false, Bool.false_or, Bool.or_false, Int.lt_irrefl, gt_iff_lt, Bool.false_eq_true, if_false, run_askRoom, hm, hzr, newRow, run_newObj, hrow]
      rfl
  refine ⟨.slice (some ⟨w.heap.size, 0, none⟩) 0 m.toNat, _, _, ?_, rfl, (fw.push (.cells ((List.replicate m.toNat z).flatMap E.f).toArray E.T (0, 0))).mono fun h => sat_head fun hh hpt => ?_⟩
  · simp [execOp, fa.ev hx, fa.ev hy, hrun]
  · have := sl_shut (E := E) (b := w.heap.size) (xs := ([] : List α)) (cap := m.toNat) (off := 0) (pre := []) (post := (List.replicate m.toNat z).flatMap E.f) (by simp) rfl (by rw [flat_len]; simp) hh (by simpa using hpt)
    simpa using this
end
end Hd
end
section
namespace Hd
open Go
/-- a map of numbers: its keys and values, in the order in which they came -/
def MpH (r : Nat) (kv : List (Int × Int)) : HP := fun h => ∃ (es : Array MapEntry) (clock : Nat), es.toList.map (fun e => (e.key, e.val)) = kv.map (fun p => (Value.int .i64 p.1, Value.int .i64 p.2)) ∧ Pt r (.map es clock) h
def mapB (P : Program) (t k e : Nat) : Bool :=
  match P.underlying t with
  | some (.map k' e') => (k' == k) && (e' == e) && intB P k .i64
  | _ => false
/-- the map r -/
class HasMp (L : List HP) (r : Nat) (kv : outParam (List (Int × Int))) (R : outParam (List HP)) : Prop where
  out : ∀ h, Sat L h → Sat (MpH r kv :: R) h
instance (priority := high) HasMp.here (r : Nat) (kv : List (Int × Int)) (L : List HP) : HasMp (MpH r kv :: L) r kv L := ⟨fun _ h => h⟩
instance (priority := low) HasMp.there (r : Nat) (kv : List (Int × Int)) (B : HP) (L R : List HP) [t : HasMp L r kv R] : HasMp (B :: L) r kv (B :: R) :=
  ⟨fun _ h => sat_swap (sat_tail t.out h)⟩
/-- the zero value is the number 0 -/
def zintB (P : Program) (t : TypeId) : Bool := match (P.info? t).bind (·.zero) with
  | some (.int .i64 z) => z == 0
  | _ => false
theorem zint_run {P : Program} {t : TypeId} (h : zintB P t = true) (w : World) : (zeroValue t).run P w = .ok (.int .i64 0) w := by
  unfold zintB at h
  cases e : P.info? t with
  | none => simp [e] at h
  | some i =>
    cases e2 : i.zero with
    | none => simp [e, e2] at h
    | some z =>
      simp only [e, Option.bind_some, e2] at h
      split at h
      · rename_i z' hz
        cases hz
        have : z' = 0 := by simpa using h
        subst this
        simp [zeroValue, typeInfo, e, e2]
      · cases h
theorem mapB_spec {P : Program} {t k e : Nat} (h : mapB P t k e = true) : P.underlying t = some (.map k e) ∧ P.underlying k = some (.int .i64) := by
  unfold mapB at h
  cases eu : P.underlying t with
  | none => simp [eu] at h
  | some d =>
    cases d <;> simp [eu] at h
    rename_i k' e'
    obtain ⟨⟨h1, h2⟩, h3⟩ := h
    subst h1 h2
    exact ⟨rfl, intB_spec h3⟩
theorem findNow_int (k : Int) : ∀ (es : List MapEntry) (kv : List (Int × Int)) (i : Nat), es.map (fun e => (e.key, e.val)) = kv.map (fun p => (Value.int .i64 p.1, Value.int .i64 p.2)) →
    Instr.findNow (.int .i64) (.int .i64 k) es i = some (match kv.lookup k with | some v => some (i + (kv.findIdx fun p => p.1 == k), Value.int .i64 v) | none => none)
  | [], [], i, _ => by simp [Instr.findNow]
  | [], _ :: _, i, h => by simp at h
  | _ :: _, [], i, h => by simp at h
  | e :: es, (k', v') :: kv, i, h => by
    simp only [List.map_cons, List.cons.injEq, Prod.mk.injEq] at h
    obtain ⟨⟨h1, h2⟩, h3⟩ := h
    have ih := findNow_int k es kv (i + 1) h3
    by_cases e1 : k = k'
    · subst e1
      simp [Instr.findNow, Instr.sameNow, h1, h2, List.lookup, List.findIdx_cons]
    · have e2 : (k == k') = false := by simpa using e1
      have e3 : (k' == k) = false := by simpa using fun x => e1 x.symm
      simp only [Instr.findNow, Instr.sameNow, h1, if_true, e2, ih, List.lookup, List.findIdx_cons, e3, cond_false]
      cases kv.lookup k <;> simp <;> omega
section
variable {P : Program} {g : Gl} {n : Nat} {env : Env} {L M : List HP} {v : Value}
variable {dst : Option Tmp} {ty : TypeId} {pos : String} {af : Array Edge} {gd : Option (Nat × Bool)} {R : List HP}
theorem mp_open {r : Nat} {kv : List (Int × Int)} {w : World} (f : Fit g (MpH r kv :: R) w) : ∃ es clock, es.toList.map (fun e => (e.key, e.val)) = kv.map (fun p => (Value.int .i64 p.1, Value.int .i64 p.2)) ∧ Fit g (Pt r (.map es clock) :: R) w := by
  obtain ⟨h1, h2, j, ⟨es, clock, e, hp⟩, hr⟩ := f.sat
  exact ⟨es, clock, e, f.os, f.tape, f.output, f.dr, h1, h2, j, hp, hr⟩
theorem xo_makemap {t : TypeId} : XO P g n env L ⟨dst, .makeMap t none, ty, pos, af, gd⟩ (fun v M => ∃ r, v = .map (some r) ∧ M = MpH r [] :: L) := by
  intro a w fa fw
  refine ⟨.map (some w.heap.size), _, _, ?_, ⟨_, rfl, rfl⟩, (fw.push (.map #[] 0)).mono fun h => sat_head fun hh hp => ⟨#[], 0, rfl, hp⟩⟩
  simp [execOp, Instr.makeMap]
theorem checkKey_int {k : TypeId} {empty : Bool} {x : Int} {w : World} (h : P.underlying k = some (.int .i64)) : (Instr.checkKey empty 10000 k (.int .i64 x)).run P w = .ok () w := by
  unfold Instr.checkKey
  simp [underlying, h]
theorem getObj_run {r : Nat} {es : Array MapEntry} {clock : Nat} {w : World} (f : Fit g (Pt r (.map es clock) :: R) w) : (getObj r).run P w = .ok (.map es clock) w := by
  have := sat_pt f.sat
  simp only [frag] at this
  simp [getObj, Sem.run, this]
theorem findKey_run {k : Nat} {c : Int} {es : Array MapEntry} {kv : List (Int × Int)} {w : World} (hk : P.underlying k = some (.int .i64)) (he : es.toList.map (fun e => (e.key, e.val)) = kv.map (fun p => (Value.int .i64 p.1, Value.int .i64 p.2))) :
    (Instr.findKey k (.int .i64 c) es.toList).run P w = .ok (match kv.lookup c with | some v => some ((kv.findIdx fun p => p.1 == c), Value.int .i64 v) | none => none) w := by
  have := findNow_int c es.toList kv 0 he
  simp only [Nat.zero_add] at this
  have hund : (underlying k).run P w = .ok (.int .i64) w := by simp [underlying, hk]
  simp only [Instr.findKey, Sem.run_bind, hund, Result.andThen_ok, this, Sem.run_pure]
theorem po_lookup {t k e : Nat} {x ix : Operand} {r : Nat} {c : Int} {kv : List (Int × Int)} (hx : env.ev x = some (.map (some r))) (hi : env.ev ix = some (.int .i64 c)) (ht : mapB P t k e = true) (hz : zintB P e = true) [m : HasMp L r kv R] :
    PO P g n env L ⟨dst, .lookup t x ix true, ty, pos, af, gd⟩ (.tuple #[.int .i64 ((kv.lookup c).getD 0), .bool (kv.lookup c).isSome]) := by
  intro a w fa fw
  obtain ⟨hu, hk⟩ := mapB_spec ht
  obtain ⟨es, clock, he, fw'⟩ := mp_open (fw.mono m.out)
  have hund : (underlying t).run P w = .ok (.map k e) w := by simp [underlying, hu]
  have hf := findKey_run (P := P) (c := c) (w := w) hk he
  have hrun : (Instr.lookup t (.map (some r)) (.int .i64 c) true).run P w = .ok (.tuple #[.int .i64 ((kv.lookup c).getD 0), .bool (kv.lookup c).isSome]) w := by
    simp only [Instr.lookup, Sem.run_bind, hund, Result.andThen_ok, getObj_run fw', Sem.run_pure, checkKey_int hk, hf]
    cases kv.lookup c <;> simp [zint_run hz]
  simp only [execOp, fa.ev hx, fa.ev hi, Sem.run_bind, hrun, Result.andThen_ok, Sem.run_pure]
/-- a new key -/
theorem so_mapnew {t k e : Nat} {x ix y : Operand} {r : Nat} {c d : Int} {kv : List (Int × Int)} (hx : env.ev x = some (.map (some r))) (hi : env.ev ix = some (.int .i64 c)) (hy : env.ev y = some (.int .i64 d)) (ht : mapB P t k e = true) [m : HasMp L r kv R] (hn : kv.lookup c = none) :
    SO P g n env L ⟨dst, .mapUpdate t x ix y, ty, pos, af, gd⟩ (MpH r (kv ++ [(c, d)]) :: R) := by
  intro a w fa fw
  obtain ⟨hu, hk⟩ := mapB_spec ht
  obtain ⟨es, clock, he, fw'⟩ := mp_open (fw.mono m.out)
  have hund : (underlying t).run P w = .ok (.map k e) w := by simp [underlying, hu]
  have hf := findKey_run (P := P) (c := c) (w := w) hk he
  rw [hn] at hf
  have hset := fw'.setObj (.map (es.push { key := .int .i64 c, val := .int .i64 d, born := clock }) (clock + 1))
  refine ⟨_, ?_, hset.mono fun h => sat_head fun hh hp => ⟨_, _, ?_, hp⟩⟩
  · have hrun : (Instr.mapUpdate t (.map (some r)) (.int .i64 c) (.int .i64 d)).run P w = .ok () { w with heap := w.heap.setIfInBounds r (.map (es.push { key := .int .i64 c, val := .int .i64 d, born := clock }) (clock + 1)) } := by
      simp only [Instr.mapUpdate, Sem.run_bind, hund, Result.andThen_ok, getObj_run fw', checkKey_int hk, hf]
      have hb := sat_pt fw'.sat
      simp only [frag] at hb
      simp [setObj, Sem.run, hb]
    simp only [execOp, fa.ev hx, fa.ev hi, fa.ev hy, Sem.run_bind, hrun, Result.andThen_ok, Sem.run_pure]
  · simp [he]
end

section
variable {P : Program} {g : Gl} {n : Nat} {env : Env} {L : List HP}
variable {dst : Option Tmp} {ty : TypeId} {pos : String} {af : Array Edge} {gd : Option (Nat × Bool)}
theorem po_rem_t {x y : Operand} {p q : Int} {t t2 : TypeId} {k : IntKind} (hx : env.ev x = some (.int k p)) (hy : env.ev y = some (.int k q)) (h3 : 0 < q) :
    PO P g n env L ⟨dst, .binOp .rem t x y t2, ty, pos, af, gd⟩ (.int k (p.tmod q)) := by
  intro a w fa fw
  have hq : ¬ q = 0 := by omega
  simp [execOp, fa.ev hx, fa.ev hy, guard_int, binOp, Op.intDiv, hq]
end
theorem tmod_emod {p q : Int} (h : 0 < q) : (p.tmod q < 0 → p % q = p.tmod q + q) ∧ (0 ≤ p.tmod q → p % q = p.tmod q) ∧ -q < p.tmod q ∧ p.tmod q < q := by
  have e := Int.mul_tdiv_add_tmod p q
  have hr : -q < p.tmod q ∧ p.tmod q < q := by
    have h1 := Int.tmod_lt_of_pos p h
    have h2 := Int.tmod_lt_of_pos (-p) h
    rw [Int.neg_tmod] at h2
    omega
  refine ⟨fun hn => ?_, fun hn => ?_, hr.1, hr.2⟩
  · have : p = (p.tmod q + q) + q * (p.tdiv q - 1) := by rw [Int.mul_sub, Int.mul_one]; omega
    conv => lhs; rw [this]
    rw [Int.add_mul_emod_self_left, Int.emod_eq_of_lt (by omega) (by omega)]
  · have : p = p.tmod q + q * p.tdiv q := by omega
    conv => lhs; rw [this]
    rw [Int.add_mul_emod_self_left, Int.emod_eq_of_lt hn hr.2]
end Hd
end
section
namespace Hd
open Go
/-! ## runs of plain operations, and shorter words for steps -/
/-- what an operation yields that reads slots alone -/
def pval (env : Env) : Op → Option Value
  | .move x => env.ev x
  | .assign x => env.ev x
  | .nilCheck x => match env.ev x with
    | some (.pointer (some a)) => some (.pointer (some a))
    | _ => none
  | .extract x i => match env.ev x with
    | some (.tuple vs) => nth vs.toList i
    | _ => none
  | .pick c x y => match env.ev c with
    | some (.bool true) => env.ev x
    | some (.bool false) => env.ev y
    | _ => none
  | _ => none
def prun (n : Nat) (lops : List Oper) : Nat → List Oper → Env → Option (Env × List Oper)
  | 0, l, env => some (env, l)
  | _ + 1, [], _ => none
  | k + 1, o :: l, env => match wantE lops env o with
    | some true => match pval env o.op with
      | some v => match o.dst with
        | some d => bif Nat.blt d n then prun n lops k l ((d, v) :: env) else none
        | none => prun n lops k l env
      | none => none
    | some false => match o.dst with
      | some d => bif Nat.blt d n then prun n lops k l ((d, undef) :: env) else none
      | none => prun n lops k l env
    | none => none
section
variable {P : Program} {g : Gl} {n : Nat} {env env' : Env} {L M : List HP} {Q : Exit → Act → World → Prop} {lops l l' : List Oper} {o : Oper} {d : Nat} {v : Value}
theorem po_pval (h : pval env o.op = some v) : PO P g n env L o v := by
  obtain ⟨dst, op, ty, pos, af, gd⟩ := o
  cases op <;> simp only [pval] at h <;> try (exact absurd h (by simp))
  · exact po_move h
  · exact po_assign h
  all_goals skip
  all_goals (split at h)
  all_goals first
    | (cases h; rename_i he; exact po_nil he)
    | (rename_i he; exact po_extract (vs := _) (by simpa using he) h)
    | (rename_i he; exact po_pick_t he h)
    | (rename_i he; exact po_pick_f he h)
    | exact absurd h (by simp)
theorem rp (k : Nat) : ∀ {l : List Oper} {env : Env}, prun n lops k l env = some (env', l') → WS P g n env' L lops l' Q → WS P g n env L lops l Q := by
  induction k with
  | zero => intro l env h hk; simp only [prun] at h; cases h; exact hk
  | succ k ih =>
    intro l env h hk
    cases l with
    | nil => simp [prun] at h
    | cons o l =>
      simp only [prun] at h
      cases hw : wantE lops env o with
      | none => simp [hw] at h
      | some b =>
        cases b with
        | true =>
          simp only [hw] at h
          cases hv : pval env o.op with
          | none => simp [hv] at h
          | some v =>
            simp only [hv] at h
            cases hd : o.dst with
            | none =>
              simp only [hd] at h
              exact ws (st_po0 (po_pval hv) hw hd (ih h hk))
            | some d =>
              simp only [hd] at h
              cases hn : Nat.blt d n with
              | false => simp [hn] at h
              | true =>
                simp only [hn, cond_true] at h
                exact ws (st_po (po_pval hv) hw hd hn (ih h hk))
        | false =>
          simp only [hw] at h
          cases hd : o.dst with
          | none =>
            simp only [hd] at h
            exact ws (st_no0 hw hd (ih h hk))
          | some d =>
            simp only [hd] at h
            cases hn : Nat.blt d n with
            | false => simp [hn] at h
            | true =>
              simp only [hn, cond_true] at h
              exact ws (st_no hw hd hn (ih h hk))
theorem Wp (h : PO P g n env L o v) (k : WS P g n ((d, v) :: env) L lops l Q) (hw : wantE lops env o = some true := by rfl) (hd : o.dst = some d := by rfl) (hn : Nat.blt d n = true := by rfl) : WS P g n env L lops (o :: l) Q := ws (st_po h hw hd hn k)
theorem Ws (h : SO P g n env L o M) (k : WS P g n env M lops l Q) (hw : wantE lops env o = some true := by rfl) (hd : o.dst = none := by rfl) : WS P g n env L lops (o :: l) Q := ws (st_so h hw hd k)
theorem Wx {R : Value → List HP → Prop} (h : XO P g n env L o R) (k : ∀ v M, R v M → WS P g n ((d, v) :: env) M lops l Q) (hw : wantE lops env o = some true := by rfl) (hd : o.dst = some d := by rfl) (hn : Nat.blt d n = true := by rfl) : WS P g n env L lops (o :: l) Q := ws (st_xo h hw hd hn k)
theorem Wc {f : FuncId} {args : Array Value} {Pre R : List HP} {Post : Value → List HP → Prop} (h : CO P g n env L o f args) (hs : Spec P f args Pre Post) [t : Takes L Pre R] (k : ∀ v M, Post v M → WS P g n ((d, v) :: env) (M ++ R) lops l Q)
    (hw : wantE lops env o = some true := by rfl) (hd : o.dst = some d := by rfl) (hn : Nat.blt d n = true := by rfl) : WS P g n env L lops (o :: l) Q := ws (st_call h hs t hw hd hn k)
/-- a bool as a proposition -/
class BV (b : Bool) (p q : outParam Prop) : Prop where
  t : b = true → p
  f : b = false → q
instance (priority := high) BV.nt (p : Prop) [Decidable p] : BV (!decide p) (¬ p) p := ⟨fun h => by simpa using h, fun h => by simpa using h⟩
instance BV.dc (p : Prop) [Decidable p] : BV (decide p) p (¬ p) := ⟨fun h => of_decide_eq_true h, fun h => of_decide_eq_false h⟩
instance (priority := low) BV.any (b : Bool) : BV b (b = true) (b = false) := ⟨fun h => h, fun h => h⟩
theorem Rc {c : Operand} {x y : Code} {b : Bool} {p q : Prop} (hc : env.ev c = some (.bool b)) [m : BV b p q] (kt : p → WP P g n x Q env L) (kf : q → WP P g n y Q env L) : WP P g n (.cond c x y) Q env L :=
  r_cond hc (fun h => kt (m.t h)) (fun h => kf (m.f h))
variable {late : List Nat} {L0 : List HP} {r : List (Nat × Nat)} {listed : Array Bool} {i : Nat}
theorem Or (ho : nth lops i = some o) (h : PO P g n env L0 o v) (k : WO P g n ((d, v) :: env) L lops late L0 r (listed.setIfInBounds i true) Q) (hS : ∀ h, Sat L h → Sat L0 h := by first | exact fun _ h => h | exact ent)
    (hw : wantE lops env o = some true := by rfl) (hd : o.dst = some d := by rfl) (hn : Nat.blt d n = true := by rfl) : WO P g n env L lops late L0 ((i, 0) :: r) listed Q := o_rd ho h hS hw hd hn k
theorem Of (ho : nth lops i = some o) (h : PO P g n env [] o v) (k : WO P g n ((d, v) :: env) L lops late L0 r (listed.setIfInBounds i true) Q)
    (hw : wantE lops env o = some true := by rfl) (hd : o.dst = some d := by rfl) (hn : Nat.blt d n = true := by rfl) : WO P g n env L lops late L0 ((i, 1) :: r) listed Q := o_fr ho h hw hd hn k
/-! control -/
theorem Aw {y : Code} {Q' : Exit → Act → World → Prop} (k : WP P g n y Q' env L) : AT g n .normal (Exit.then (y.wp P Q') Q) env L := at_then_wp k
theorem Sq {x y : Code} (k : WP P g n x (Exit.then (y.wp P Q) Q) env L) : WP P g n (.seq x y) Q env L := r_seq k
theorem Rg {id : Nat} (k : WS P g n env L lops lops Q) : WP P g n (.region id lops.toArray false) Q env L := r_reg k
theorem Sn (k : AT g n .normal Q env L) : WS P g n env L lops [] Q := s_nil k
theorem Bk {id : Nat} {c : Code} (k : WP P g n c (Exit.inBlock id Q) env L) : WP P g n (.block id c) Q env L := r_block k
theorem Bn {i : Nat} (k : AT g n .normal Q env L) : AT g n .normal (Exit.inBlock i Q) env L := at_block_normal k
theorem Bh {i : Nat} (k : AT g n .normal Q env L) : AT g n (.exit i) (Exit.inBlock i Q) env L := at_block_here k
theorem Br {i : Nat} (k : AT g n .ret Q env L) : AT g n .ret (Exit.inBlock i Q) env L := at_block_ret k
theorem Ax {K : Act → World → Prop} {i : Nat} (k : AT g n (.exit i) Q env L) : AT g n (.exit i) (Exit.then K Q) env L := k
theorem Ar {K : Act → World → Prop} (k : AT g n .ret Q env L) : AT g n .ret (Exit.then K Q) env L := k
theorem Sk (k : AT g n .normal Q env L) : WP P g n .skip Q env L := r_skip k
theorem Ex' {id : Nat} (k : AT g n (.exit id) Q env L) : WP P g n (.exit id) Q env L := r_exit k
theorem Rt (k : AT g n .ret Q env L) : WP P g n .ret Q env L := r_ret k
end
theorem ca {α : Type} (a : α) (l m : List α) : a :: l ++ m = a :: (l ++ m) := rfl
theorem na {α : Type} (l : List α) : [] ++ l = l := rfl
end Hd
end
section
namespace Hd
open Go
/-- the program -/
noncomputable abbrev PP : Program := Go.Proofs.Tryz.prog

theorem fc_agg_107_4 : aggB PP 107 4 = true := by kernel_rfl
theorem fc_agg_124_3 : aggB PP 124 3 = true := by kernel_rfl
theorem fc_agg_160_2 : aggB PP 160 2 = true := by kernel_rfl
theorem fc_agg_24_3 : aggB PP 24 3 = true := by kernel_rfl
theorem fc_agg_41_3 : aggB PP 41 3 = true := by kernel_rfl
theorem fc_agg_45_3 : aggB PP 45 3 = true := by kernel_rfl
theorem fc_agg_54_2 : aggB PP 54 2 = true := by kernel_rfl
theorem fc_agg_76_2 : aggB PP 76 2 = true := by kernel_rfl
theorem fc_arr_107_4_3_1 : arrB PP 107 4 3 1 = true := by kernel_rfl
theorem fc_arr_146_256_145_2 : arrB PP 146 256 145 2 = true := by kernel_rfl
theorem fc_bool_4 : boolB PP 4 = true := by kernel_rfl
theorem fc_elem_124_3_56 : elemB PP 124 3 56 = true := by kernel_rfl
theorem fc_elem_160_2_16 : elemB PP 160 2 16 = true := by kernel_rfl
theorem fc_elem_2_1_8 : elemB PP 2 1 8 = true := by kernel_rfl
theorem fc_elem_21_1_4 : elemB PP 21 1 4 = true := by kernel_rfl
theorem fc_elem_3_1_8 : elemB PP 3 1 8 = true := by kernel_rfl
theorem fc_elem_4_1_1 : elemB PP 4 1 1 = true := by kernel_rfl
theorem fc_elem_45_3_24 : elemB PP 45 3 24 = true := by kernel_rfl
theorem fc_elem_5_1_1 : elemB PP 5 1 1 = true := by kernel_rfl
theorem fc_elem_76_2_16 : elemB PP 76 2 16 = true := by kernel_rfl
theorem fc_enters_10 : Enters PP 10 := enters_of Go.Proofs.Tryz.func10 (by kernel_rfl) rfl
theorem fc_enters_100 : Enters PP 100 := enters_of Go.Proofs.Tryz.func100 (by kernel_rfl) rfl
theorem fc_enters_103 : Enters PP 103 := enters_of Go.Proofs.Tryz.func103 (by kernel_rfl) rfl
theorem fc_enters_104 : Enters PP 104 := enters_of Go.Proofs.Tryz.func104 (by kernel_rfl) rfl
theorem fc_enters_105 : Enters PP 105 := enters_of Go.Proofs.Tryz.func105 (by kernel_rfl) rfl
theorem fc_enters_106 : Enters PP 106 := enters_of Go.Proofs.Tryz.func106 (by kernel_rfl) rfl
theorem fc_enters_107 : Enters PP 107 := enters_of Go.Proofs.Tryz.func107 (by kernel_rfl) rfl
theorem fc_enters_108 : Enters PP 108 := enters_of Go.Proofs.Tryz.func108 (by kernel_rfl) rfl
theorem fc_enters_109 : Enters PP 109 := enters_of Go.Proofs.Tryz.func109 (by kernel_rfl) rfl
theorem fc_enters_11 : Enters PP 11 := enters_of Go.Proofs.Tryz.func11 (by kernel_rfl) rfl
theorem fc_enters_110 : Enters PP 110 := enters_of Go.Proofs.Tryz.func110 (by kernel_rfl) rfl
theorem fc_enters_111 : Enters PP 111 := enters_of Go.Proofs.Tryz.func111 (by kernel_rfl) rfl
theorem fc_enters_112 : Enters PP 112 := enters_of Go.Proofs.Tryz.func112 (by kernel_rfl) rfl
theorem fc_enters_113 : Enters PP 113 := enters_of Go.Proofs.Tryz.func113 (by kernel_rfl) rfl
theorem fc_enters_114 : Enters PP 114 := enters_of Go.Proofs.Tryz.func114 (by kernel_rfl) rfl
theorem fc_enters_115 : Enters PP 115 := enters_of Go.Proofs.Tryz.func115 (by kernel_rfl) rfl
theorem fc_enters_116 : Enters PP 116 := enters_of Go.Proofs.Tryz.func116 (by kernel_rfl) rfl
theorem fc_enters_117 : Enters PP 117 := enters_of Go.Proofs.Tryz.func117 (by kernel_rfl) rfl
theorem fc_enters_118 : Enters PP 118 := enters_of Go.Proofs.Tryz.func118 (by kernel_rfl) rfl
theorem fc_enters_119 : Enters PP 119 := enters_of Go.Proofs.Tryz.func119 (by kernel_rfl) rfl
theorem fc_enters_12 : Enters PP 12 := enters_of Go.Proofs.Tryz.func12 (by kernel_rfl) rfl
theorem fc_enters_120 : Enters PP 120 := enters_of Go.Proofs.Tryz.func120 (by kernel_rfl) rfl
theorem fc_enters_121 : Enters PP 121 := enters_of Go.Proofs.Tryz.func121 (by kernel_rfl) rfl
theorem fc_enters_122 : Enters PP 122 := enters_of Go.Proofs.Tryz.func122 (by kernel_rfl) rfl
theorem fc_enters_123 : Enters PP 123 := enters_of Go.Proofs.Tryz.func123 (by kernel_rfl) rfl
theorem fc_enters_124 : Enters PP 124 := enters_of Go.Proofs.Tryz.func124 (by kernel_rfl) rfl
theorem fc_enters_127 : Enters PP 127 := enters_of Go.Proofs.Tryz.func127 (by kernel_rfl) rfl
theorem fc_enters_128 : Enters PP 128 := enters_of Go.Proofs.Tryz.func128 (by kernel_rfl) rfl
theorem fc_enters_13 : Enters PP 13 := enters_of Go.Proofs.Tryz.func13 (by kernel_rfl) rfl
theorem fc_enters_134 : Enters PP 134 := enters_of Go.Proofs.Tryz.func134 (by kernel_rfl) rfl
theorem fc_enters_135 : Enters PP 135 := enters_of Go.Proofs.Tryz.func135 (by kernel_rfl) rfl
theorem fc_enters_136 : Enters PP 136 := enters_of Go.Proofs.Tryz.func136 (by kernel_rfl) rfl
theorem fc_enters_138 : Enters PP 138 := enters_of Go.Proofs.Tryz.func138 (by kernel_rfl) rfl
theorem fc_enters_139 : Enters PP 139 := enters_of Go.Proofs.Tryz.func139 (by kernel_rfl) rfl
theorem fc_enters_14 : Enters PP 14 := enters_of Go.Proofs.Tryz.func14 (by kernel_rfl) rfl
theorem fc_enters_140 : Enters PP 140 := enters_of Go.Proofs.Tryz.func140 (by kernel_rfl) rfl
theorem fc_enters_141 : Enters PP 141 := enters_of Go.Proofs.Tryz.func141 (by kernel_rfl) rfl
theorem fc_enters_142 : Enters PP 142 := enters_of Go.Proofs.Tryz.func142 (by kernel_rfl) rfl
theorem fc_enters_143 : Enters PP 143 := enters_of Go.Proofs.Tryz.func143 (by kernel_rfl) rfl
theorem fc_enters_144 : Enters PP 144 := enters_of Go.Proofs.Tryz.func144 (by kernel_rfl) rfl
theorem fc_enters_145 : Enters PP 145 := enters_of Go.Proofs.Tryz.func145 (by kernel_rfl) rfl
theorem fc_enters_146 : Enters PP 146 := enters_of Go.Proofs.Tryz.func146 (by kernel_rfl) rfl
theorem fc_enters_147 : Enters PP 147 := enters_of Go.Proofs.Tryz.func147 (by kernel_rfl) rfl
theorem fc_enters_148 : Enters PP 148 := enters_of Go.Proofs.Tryz.func148 (by kernel_rfl) rfl
theorem fc_enters_149 : Enters PP 149 := enters_of Go.Proofs.Tryz.func149 (by kernel_rfl) rfl
theorem fc_enters_15 : Enters PP 15 := enters_of Go.Proofs.Tryz.func15 (by kernel_rfl) rfl
theorem fc_enters_150 : Enters PP 150 := enters_of Go.Proofs.Tryz.func150 (by kernel_rfl) rfl
theorem fc_enters_153 : Enters PP 153 := enters_of Go.Proofs.Tryz.func153 (by kernel_rfl) rfl
theorem fc_enters_154 : Enters PP 154 := enters_of Go.Proofs.Tryz.func154 (by kernel_rfl) rfl
theorem fc_enters_155 : Enters PP 155 := enters_of Go.Proofs.Tryz.func155 (by kernel_rfl) rfl
theorem fc_enters_156 : Enters PP 156 := enters_of Go.Proofs.Tryz.func156 (by kernel_rfl) rfl
theorem fc_enters_157 : Enters PP 157 := enters_of Go.Proofs.Tryz.func157 (by kernel_rfl) rfl
theorem fc_enters_158 : Enters PP 158 := enters_of Go.Proofs.Tryz.func158 (by kernel_rfl) rfl
theorem fc_enters_159 : Enters PP 159 := enters_of Go.Proofs.Tryz.func159 (by kernel_rfl) rfl
theorem fc_enters_16 : Enters PP 16 := enters_of Go.Proofs.Tryz.func16 (by kernel_rfl) rfl
theorem fc_enters_160 : Enters PP 160 := enters_of Go.Proofs.Tryz.func160 (by kernel_rfl) rfl
theorem fc_enters_161 : Enters PP 161 := enters_of Go.Proofs.Tryz.func161 (by kernel_rfl) rfl
theorem fc_enters_17 : Enters PP 17 := enters_of Go.Proofs.Tryz.func17 (by kernel_rfl) rfl
theorem fc_enters_18 : Enters PP 18 := enters_of Go.Proofs.Tryz.func18 (by kernel_rfl) rfl
theorem fc_enters_19 : Enters PP 19 := enters_of Go.Proofs.Tryz.func19 (by kernel_rfl) rfl
theorem fc_enters_20 : Enters PP 20 := enters_of Go.Proofs.Tryz.func20 (by kernel_rfl) rfl
theorem fc_enters_21 : Enters PP 21 := enters_of Go.Proofs.Tryz.func21 (by kernel_rfl) rfl
theorem fc_enters_22 : Enters PP 22 := enters_of Go.Proofs.Tryz.func22 (by kernel_rfl) rfl
theorem fc_enters_23 : Enters PP 23 := enters_of Go.Proofs.Tryz.func23 (by kernel_rfl) rfl
theorem fc_enters_24 : Enters PP 24 := enters_of Go.Proofs.Tryz.func24 (by kernel_rfl) rfl
theorem fc_enters_25 : Enters PP 25 := enters_of Go.Proofs.Tryz.func25 (by kernel_rfl) rfl
theorem fc_enters_26 : Enters PP 26 := enters_of Go.Proofs.Tryz.func26 (by kernel_rfl) rfl
theorem fc_enters_27 : Enters PP 27 := enters_of Go.Proofs.Tryz.func27 (by kernel_rfl) rfl
theorem fc_enters_28 : Enters PP 28 := enters_of Go.Proofs.Tryz.func28 (by kernel_rfl) rfl
theorem fc_enters_29 : Enters PP 29 := enters_of Go.Proofs.Tryz.func29 (by kernel_rfl) rfl
theorem fc_enters_3 : Enters PP 3 := enters_of Go.Proofs.Tryz.func3 (by kernel_rfl) rfl
theorem fc_enters_30 : Enters PP 30 := enters_of Go.Proofs.Tryz.func30 (by kernel_rfl) rfl
theorem fc_enters_31 : Enters PP 31 := enters_of Go.Proofs.Tryz.func31 (by kernel_rfl) rfl
theorem fc_enters_32 : Enters PP 32 := enters_of Go.Proofs.Tryz.func32 (by kernel_rfl) rfl
theorem fc_enters_33 : Enters PP 33 := enters_of Go.Proofs.Tryz.func33 (by kernel_rfl) rfl
theorem fc_enters_34 : Enters PP 34 := enters_of Go.Proofs.Tryz.func34 (by kernel_rfl) rfl
theorem fc_enters_35 : Enters PP 35 := enters_of Go.Proofs.Tryz.func35 (by kernel_rfl) rfl
theorem fc_enters_36 : Enters PP 36 := enters_of Go.Proofs.Tryz.func36 (by kernel_rfl) rfl
theorem fc_enters_37 : Enters PP 37 := enters_of Go.Proofs.Tryz.func37 (by kernel_rfl) rfl
theorem fc_enters_38 : Enters PP 38 := enters_of Go.Proofs.Tryz.func38 (by kernel_rfl) rfl
theorem fc_enters_39 : Enters PP 39 := enters_of Go.Proofs.Tryz.func39 (by kernel_rfl) rfl
theorem fc_enters_4 : Enters PP 4 := enters_of Go.Proofs.Tryz.func4 (by kernel_rfl) rfl
theorem fc_enters_40 : Enters PP 40 := enters_of Go.Proofs.Tryz.func40 (by kernel_rfl) rfl
theorem fc_enters_41 : Enters PP 41 := enters_of Go.Proofs.Tryz.func41 (by kernel_rfl) rfl
theorem fc_enters_42 : Enters PP 42 := enters_of Go.Proofs.Tryz.func42 (by kernel_rfl) rfl
theorem fc_enters_43 : Enters PP 43 := enters_of Go.Proofs.Tryz.func43 (by kernel_rfl) rfl
theorem fc_enters_44 : Enters PP 44 := enters_of Go.Proofs.Tryz.func44 (by kernel_rfl) rfl
theorem fc_enters_45 : Enters PP 45 := enters_of Go.Proofs.Tryz.func45 (by kernel_rfl) rfl
theorem fc_enters_46 : Enters PP 46 := enters_of Go.Proofs.Tryz.func46 (by kernel_rfl) rfl
theorem fc_enters_47 : Enters PP 47 := enters_of Go.Proofs.Tryz.func47 (by kernel_rfl) rfl
theorem fc_enters_48 : Enters PP 48 := enters_of Go.Proofs.Tryz.func48 (by kernel_rfl) rfl
theorem fc_enters_49 : Enters PP 49 := enters_of Go.Proofs.Tryz.func49 (by kernel_rfl) rfl
theorem fc_enters_5 : Enters PP 5 := enters_of Go.Proofs.Tryz.func5 (by kernel_rfl) rfl
theorem fc_enters_50 : Enters PP 50 := enters_of Go.Proofs.Tryz.func50 (by kernel_rfl) rfl
theorem fc_enters_51 : Enters PP 51 := enters_of Go.Proofs.Tryz.func51 (by kernel_rfl) rfl
theorem fc_enters_52 : Enters PP 52 := enters_of Go.Proofs.Tryz.func52 (by kernel_rfl) rfl
theorem fc_enters_53 : Enters PP 53 := enters_of Go.Proofs.Tryz.func53 (by kernel_rfl) rfl
theorem fc_enters_54 : Enters PP 54 := enters_of Go.Proofs.Tryz.func54 (by kernel_rfl) rfl
theorem fc_enters_55 : Enters PP 55 := enters_of Go.Proofs.Tryz.func55 (by kernel_rfl) rfl
theorem fc_enters_56 : Enters PP 56 := enters_of Go.Proofs.Tryz.func56 (by kernel_rfl) rfl
theorem fc_enters_57 : Enters PP 57 := enters_of Go.Proofs.Tryz.func57 (by kernel_rfl) rfl
theorem fc_enters_58 : Enters PP 58 := enters_of Go.Proofs.Tryz.func58 (by kernel_rfl) rfl
theorem fc_enters_59 : Enters PP 59 := enters_of Go.Proofs.Tryz.func59 (by kernel_rfl) rfl
theorem fc_enters_6 : Enters PP 6 := enters_of Go.Proofs.Tryz.func6 (by kernel_rfl) rfl
theorem fc_enters_60 : Enters PP 60 := enters_of Go.Proofs.Tryz.func60 (by kernel_rfl) rfl
theorem fc_enters_61 : Enters PP 61 := enters_of Go.Proofs.Tryz.func61 (by kernel_rfl) rfl
theorem fc_enters_62 : Enters PP 62 := enters_of Go.Proofs.Tryz.func62 (by kernel_rfl) rfl
theorem fc_enters_63 : Enters PP 63 := enters_of Go.Proofs.Tryz.func63 (by kernel_rfl) rfl
theorem fc_enters_64 : Enters PP 64 := enters_of Go.Proofs.Tryz.func64 (by kernel_rfl) rfl
theorem fc_enters_65 : Enters PP 65 := enters_of Go.Proofs.Tryz.func65 (by kernel_rfl) rfl
theorem fc_enters_66 : Enters PP 66 := enters_of Go.Proofs.Tryz.func66 (by kernel_rfl) rfl
theorem fc_enters_67 : Enters PP 67 := enters_of Go.Proofs.Tryz.func67 (by kernel_rfl) rfl
theorem fc_enters_68 : Enters PP 68 := enters_of Go.Proofs.Tryz.func68 (by kernel_rfl) rfl
theorem fc_enters_69 : Enters PP 69 := enters_of Go.Proofs.Tryz.func69 (by kernel_rfl) rfl
theorem fc_enters_7 : Enters PP 7 := enters_of Go.Proofs.Tryz.func7 (by kernel_rfl) rfl
theorem fc_enters_70 : Enters PP 70 := enters_of Go.Proofs.Tryz.func70 (by kernel_rfl) rfl
theorem fc_enters_71 : Enters PP 71 := enters_of Go.Proofs.Tryz.func71 (by kernel_rfl) rfl
theorem fc_enters_72 : Enters PP 72 := enters_of Go.Proofs.Tryz.func72 (by kernel_rfl) rfl
theorem fc_enters_73 : Enters PP 73 := enters_of Go.Proofs.Tryz.func73 (by kernel_rfl) rfl
theorem fc_enters_74 : Enters PP 74 := enters_of Go.Proofs.Tryz.func74 (by kernel_rfl) rfl
theorem fc_enters_75 : Enters PP 75 := enters_of Go.Proofs.Tryz.func75 (by kernel_rfl) rfl
theorem fc_enters_76 : Enters PP 76 := enters_of Go.Proofs.Tryz.func76 (by kernel_rfl) rfl
theorem fc_enters_77 : Enters PP 77 := enters_of Go.Proofs.Tryz.func77 (by kernel_rfl) rfl
theorem fc_enters_78 : Enters PP 78 := enters_of Go.Proofs.Tryz.func78 (by kernel_rfl) rfl
theorem fc_enters_79 : Enters PP 79 := enters_of Go.Proofs.Tryz.func79 (by kernel_rfl) rfl
theorem fc_enters_8 : Enters PP 8 := enters_of Go.Proofs.Tryz.func8 (by kernel_rfl) rfl
theorem fc_enters_80 : Enters PP 80 := enters_of Go.Proofs.Tryz.func80 (by kernel_rfl) rfl
theorem fc_enters_81 : Enters PP 81 := enters_of Go.Proofs.Tryz.func81 (by kernel_rfl) rfl
theorem fc_enters_82 : Enters PP 82 := enters_of Go.Proofs.Tryz.func82 (by kernel_rfl) rfl
theorem fc_enters_83 : Enters PP 83 := enters_of Go.Proofs.Tryz.func83 (by kernel_rfl) rfl
theorem fc_enters_84 : Enters PP 84 := enters_of Go.Proofs.Tryz.func84 (by kernel_rfl) rfl
theorem fc_enters_85 : Enters PP 85 := enters_of Go.Proofs.Tryz.func85 (by kernel_rfl) rfl
theorem fc_enters_86 : Enters PP 86 := enters_of Go.Proofs.Tryz.func86 (by kernel_rfl) rfl
theorem fc_enters_87 : Enters PP 87 := enters_of Go.Proofs.Tryz.func87 (by kernel_rfl) rfl
theorem fc_enters_88 : Enters PP 88 := enters_of Go.Proofs.Tryz.func88 (by kernel_rfl) rfl
theorem fc_enters_89 : Enters PP 89 := enters_of Go.Proofs.Tryz.func89 (by kernel_rfl) rfl
theorem fc_enters_9 : Enters PP 9 := enters_of Go.Proofs.Tryz.func9 (by kernel_rfl) rfl
theorem fc_enters_90 : Enters PP 90 := enters_of Go.Proofs.Tryz.func90 (by kernel_rfl) rfl
theorem fc_enters_91 : Enters PP 91 := enters_of Go.Proofs.Tryz.func91 (by kernel_rfl) rfl
theorem fc_enters_92 : Enters PP 92 := enters_of Go.Proofs.Tryz.func92 (by kernel_rfl) rfl
theorem fc_enters_93 : Enters PP 93 := enters_of Go.Proofs.Tryz.func93 (by kernel_rfl) rfl
theorem fc_enters_94 : Enters PP 94 := enters_of Go.Proofs.Tryz.func94 (by kernel_rfl) rfl
theorem fc_enters_95 : Enters PP 95 := enters_of Go.Proofs.Tryz.func95 (by kernel_rfl) rfl
theorem fc_enters_96 : Enters PP 96 := enters_of Go.Proofs.Tryz.func96 (by kernel_rfl) rfl
theorem fc_enters_97 : Enters PP 97 := enters_of Go.Proofs.Tryz.func97 (by kernel_rfl) rfl
theorem fc_enters_98 : Enters PP 98 := enters_of Go.Proofs.Tryz.func98 (by kernel_rfl) rfl
theorem fc_enters_99 : Enters PP 99 := enters_of Go.Proofs.Tryz.func99 (by kernel_rfl) rfl
theorem fc_field_101_0_0 : fieldB PP 101 0 0 = true := by kernel_rfl
theorem fc_field_101_1_1 : fieldB PP 101 1 1 = true := by kernel_rfl
theorem fc_field_101_2_2 : fieldB PP 101 2 2 = true := by kernel_rfl
theorem fc_field_101_3_3 : fieldB PP 101 3 3 = true := by kernel_rfl
theorem fc_field_119_0_0 : fieldB PP 119 0 0 = true := by kernel_rfl
theorem fc_field_119_1_3 : fieldB PP 119 1 3 = true := by kernel_rfl
theorem fc_field_119_2_4 : fieldB PP 119 2 4 = true := by kernel_rfl
theorem fc_field_119_3_5 : fieldB PP 119 3 5 = true := by kernel_rfl
theorem fc_field_124_0_0 : fieldB PP 124 0 0 = true := by kernel_rfl
theorem fc_field_124_1_1 : fieldB PP 124 1 1 = true := by kernel_rfl
theorem fc_field_124_2_2 : fieldB PP 124 2 2 = true := by kernel_rfl
theorem fc_field_145_0_0 : fieldB PP 145 0 0 = true := by kernel_rfl
theorem fc_field_145_1_1 : fieldB PP 145 1 1 = true := by kernel_rfl
theorem fc_field_148_0_0 : fieldB PP 148 0 0 = true := by kernel_rfl
theorem fc_field_148_1_1 : fieldB PP 148 1 1 = true := by kernel_rfl
theorem fc_field_148_2_2 : fieldB PP 148 2 2 = true := by kernel_rfl
theorem fc_field_157_0_0 : fieldB PP 157 0 0 = true := by kernel_rfl
theorem fc_field_160_0_0 : fieldB PP 160 0 0 = true := by kernel_rfl
theorem fc_field_160_1_1 : fieldB PP 160 1 1 = true := by kernel_rfl
theorem fc_field_24_0_0 : fieldB PP 24 0 0 = true := by kernel_rfl
theorem fc_field_24_1_1 : fieldB PP 24 1 1 = true := by kernel_rfl
theorem fc_field_24_2_2 : fieldB PP 24 2 2 = true := by kernel_rfl
theorem fc_field_41_0_0 : fieldB PP 41 0 0 = true := by kernel_rfl
theorem fc_field_41_1_1 : fieldB PP 41 1 1 = true := by kernel_rfl
theorem fc_field_41_2_2 : fieldB PP 41 2 2 = true := by kernel_rfl
theorem fc_field_45_0_0 : fieldB PP 45 0 0 = true := by kernel_rfl
theorem fc_field_45_1_1 : fieldB PP 45 1 1 = true := by kernel_rfl
theorem fc_field_45_2_2 : fieldB PP 45 2 2 = true := by kernel_rfl
theorem fc_field_51_0_0 : fieldB PP 51 0 0 = true := by kernel_rfl
theorem fc_field_51_1_1 : fieldB PP 51 1 1 = true := by kernel_rfl
theorem fc_field_54_0_0 : fieldB PP 54 0 0 = true := by kernel_rfl
theorem fc_field_54_1_1 : fieldB PP 54 1 1 = true := by kernel_rfl
theorem fc_field_76_0_0 : fieldB PP 76 0 0 = true := by kernel_rfl
theorem fc_field_76_1_1 : fieldB PP 76 1 1 = true := by kernel_rfl
theorem fc_field_81_0_0 : fieldB PP 81 0 0 = true := by kernel_rfl
theorem fc_field_81_1_3 : fieldB PP 81 1 3 = true := by kernel_rfl
theorem fc_field_81_2_4 : fieldB PP 81 2 4 = true := by kernel_rfl
theorem fc_field_84_0_0 : fieldB PP 84 0 0 = true := by kernel_rfl
theorem fc_field_84_1_1 : fieldB PP 84 1 1 = true := by kernel_rfl
theorem fc_field_84_2_2 : fieldB PP 84 2 2 = true := by kernel_rfl
theorem fc_field_91_0_0 : fieldB PP 91 0 0 = true := by kernel_rfl
theorem fc_field_91_1_3 : fieldB PP 91 1 3 = true := by kernel_rfl
theorem fc_field_91_2_4 : fieldB PP 91 2 4 = true := by kernel_rfl
theorem fc_field_98_0_0 : fieldB PP 98 0 0 = true := by kernel_rfl
theorem fc_field_98_1_1 : fieldB PP 98 1 1 = true := by kernel_rfl
theorem fc_field_98_2_2 : fieldB PP 98 2 2 = true := by kernel_rfl
theorem fc_field_98_3_3 : fieldB PP 98 3 3 = true := by kernel_rfl
theorem fc_flat_115 : flatB PP 115 = true := by kernel_rfl
theorem fc_flat_155 : flatB PP 155 = true := by kernel_rfl
theorem fc_flat_2 : flatB PP 2 = true := by kernel_rfl
theorem fc_flat_21 : flatB PP 21 = true := by kernel_rfl
theorem fc_flat_22 : flatB PP 22 = true := by kernel_rfl
theorem fc_flat_27 : flatB PP 27 = true := by kernel_rfl
theorem fc_flat_28 : flatB PP 28 = true := by kernel_rfl
theorem fc_flat_3 : flatB PP 3 = true := by kernel_rfl
theorem fc_flat_32 : flatB PP 32 = true := by kernel_rfl
theorem fc_flat_35 : flatB PP 35 = true := by kernel_rfl
theorem fc_flat_4 : flatB PP 4 = true := by kernel_rfl
theorem fc_flat_5 : flatB PP 5 = true := by kernel_rfl
theorem fc_flat_63 : flatB PP 63 = true := by kernel_rfl
theorem fc_flat_79 : flatB PP 79 = true := by kernel_rfl
theorem fc_flat_82 : flatB PP 82 = true := by kernel_rfl
theorem fc_flat_96 : flatB PP 96 = true := by kernel_rfl
theorem fc_flat_99 : flatB PP 99 = true := by kernel_rfl
theorem fc_info_101 : allInfoB PP 101 = true := by kernel_rfl
theorem fc_info_119 : allInfoB PP 119 = true := by kernel_rfl
theorem fc_info_124 : allInfoB PP 124 = true := by kernel_rfl
theorem fc_info_148 : allInfoB PP 148 = true := by kernel_rfl
theorem fc_info_157 : allInfoB PP 157 = true := by kernel_rfl
theorem fc_info_160 : allInfoB PP 160 = true := by kernel_rfl
theorem fc_info_24 : allInfoB PP 24 = true := by kernel_rfl
theorem fc_info_41 : allInfoB PP 41 = true := by kernel_rfl
theorem fc_info_45 : allInfoB PP 45 = true := by kernel_rfl
theorem fc_info_54 : allInfoB PP 54 = true := by kernel_rfl
theorem fc_info_76 : allInfoB PP 76 = true := by kernel_rfl
theorem fc_info_81 : allInfoB PP 81 = true := by kernel_rfl
theorem fc_info_84 : allInfoB PP 84 = true := by kernel_rfl
theorem fc_info_91 : allInfoB PP 91 = true := by kernel_rfl
theorem fc_info_98 : allInfoB PP 98 = true := by kernel_rfl
theorem fc_int_139_u64 : intB PP 139 .u64 = true := by kernel_rfl
theorem fc_int_21_i32 : intB PP 21 .i32 = true := by kernel_rfl
theorem fc_int_3_i64 : intB PP 3 .i64 = true := by kernel_rfl
theorem fc_int_5_u8 : intB PP 5 .u8 = true := by kernel_rfl
theorem fc_map_129_3_3 : mapB PP 129 3 3 = true := by kernel_rfl
theorem fc_mixed : PP.follows .mixedOrders = true := by kernel_rfl
theorem fc_places_101_0_1 : placesB PP 101 [(0, 0, 1), (1, 1, 1)] = true := by kernel_rfl
theorem fc_places_119_0_1_2_3 : placesB PP 119 [(0, 0, 3), (1, 3, 1), (2, 4, 1), (3, 5, 1)] = true := by kernel_rfl
theorem fc_places_124_0_1 : placesB PP 124 [(0, 0, 1), (1, 1, 1)] = true := by kernel_rfl
theorem fc_places_148_0 : placesB PP 148 [(0, 0, 1)] = true := by kernel_rfl
theorem fc_places_157 : placesB PP 157 [] = true := by kernel_rfl
theorem fc_places_160_0_1 : placesB PP 160 [(0, 0, 1), (1, 1, 1)] = true := by kernel_rfl
theorem fc_places_24_0_1 : placesB PP 24 [(0, 0, 1), (1, 1, 1)] = true := by kernel_rfl
theorem fc_places_24_0_1_2 : placesB PP 24 [(0, 0, 1), (1, 1, 1), (2, 2, 1)] = true := by kernel_rfl
theorem fc_places_41 : placesB PP 41 [] = true := by kernel_rfl
theorem fc_places_41_0_1 : placesB PP 41 [(0, 0, 1), (1, 1, 1)] = true := by kernel_rfl
theorem fc_places_45_0_1 : placesB PP 45 [(0, 0, 1), (1, 1, 1)] = true := by kernel_rfl
theorem fc_places_45_0_1_2 : placesB PP 45 [(0, 0, 1), (1, 1, 1), (2, 2, 1)] = true := by kernel_rfl
theorem fc_places_54 : placesB PP 54 [] = true := by kernel_rfl
theorem fc_places_54_0 : placesB PP 54 [(0, 0, 1)] = true := by kernel_rfl
theorem fc_places_76_0_1 : placesB PP 76 [(0, 0, 1), (1, 1, 1)] = true := by kernel_rfl
theorem fc_places_81_0_1_2 : placesB PP 81 [(0, 0, 3), (1, 3, 1), (2, 4, 1)] = true := by kernel_rfl
theorem fc_places_84_0_1_2 : placesB PP 84 [(0, 0, 1), (1, 1, 1), (2, 2, 1)] = true := by kernel_rfl
theorem fc_places_91_0_1_2 : placesB PP 91 [(0, 0, 3), (1, 3, 1), (2, 4, 1)] = true := by kernel_rfl
theorem fc_places_98_0_1 : placesB PP 98 [(0, 0, 1), (1, 1, 1)] = true := by kernel_rfl
theorem fc_ptr_115 : ptrB PP 115 = true := by kernel_rfl
theorem fc_ptr_127 : ptrB PP 127 = true := by kernel_rfl
theorem fc_ptr_27 : ptrB PP 27 = true := by kernel_rfl
theorem fc_ptr_28 : ptrB PP 28 = true := by kernel_rfl
theorem fc_ptr_61 : ptrB PP 61 = true := by kernel_rfl
theorem fc_ptr_63 : ptrB PP 63 = true := by kernel_rfl
theorem fc_ptrnz_161 : ptrnzB PP 161 = true := by kernel_rfl
theorem fc_slice_136_4_1 : sliceB PP 136 4 1 = true := by kernel_rfl
theorem fc_slice_155_160_2 : sliceB PP 155 160 2 = true := by kernel_rfl
theorem fc_slice_22_5_1 : sliceB PP 22 5 1 = true := by kernel_rfl
theorem fc_slice_32_45_3 : sliceB PP 32 45 3 = true := by kernel_rfl
theorem fc_slice_35_3_1 : sliceB PP 35 3 1 = true := by kernel_rfl
theorem fc_slice_73_76_2 : sliceB PP 73 76 2 = true := by kernel_rfl
theorem fc_slice_79_2_1 : sliceB PP 79 2 1 = true := by kernel_rfl
theorem fc_slice_82_21_1 : sliceB PP 82 21 1 = true := by kernel_rfl
theorem fc_slice_99_124_3 : sliceB PP 99 124 3 = true := by kernel_rfl
theorem fc_st3_45 : st3B PP 45 = true := by kernel_rfl
theorem fc_zero_101 : zeroB PP 101 = some [.pointer none, .slice none 0 0, .int .i64 0, .int .u64 0] := by kernel_rfl
theorem fc_zero_107 : zeroB PP 107 = some [.int .i64 0, .int .i64 0, .int .i64 0, .int .i64 0] := by kernel_rfl
theorem fc_zero_119 : zeroB PP 119 = some [.int .i64 0, .int .i64 0, .slice none 0 0, .pointer none, .slice none 0 0, .slice none 0 0] := by kernel_rfl
theorem fc_zero_124 : zeroB PP 124 = some [.int .i64 0, .slice none 0 0, .slice none 0 0] := by kernel_rfl
theorem fc_zero_148 : zeroB PP 148 = some ([.int .i64 0, .int .i64 0] ++ (List.replicate 256 [.slice none 0 0, .int .i64 0]).flatten) := by kernel_rfl
theorem fc_zero_157 : zeroB PP 157 = some [.slice none 0 0] := by kernel_rfl
theorem fc_zero_160 : zeroB PP 160 = some [.int .i64 0, .int .i64 0] := by kernel_rfl
theorem fc_zero_2 : zeroB PP 2 = some [.int .i64 0] := by kernel_rfl
theorem fc_zero_21 : zeroB PP 21 = some [.int .i32 0] := by kernel_rfl
theorem fc_zero_24 : zeroB PP 24 = some [.int .i64 0, .int .i64 0, .slice none 0 0] := by kernel_rfl
theorem fc_zero_3 : zeroB PP 3 = some [.int .i64 0] := by kernel_rfl
theorem fc_zero_4 : zeroB PP 4 = some [.bool false] := by kernel_rfl
theorem fc_zero_41 : zeroB PP 41 = some [.int .i64 0, .int .i64 0, .slice none 0 0] := by kernel_rfl
theorem fc_zero_45 : zeroB PP 45 = some [.int .i64 0, .int .i64 0, .int .i64 0] := by kernel_rfl
theorem fc_zero_5 : zeroB PP 5 = some [.int .u8 0] := by kernel_rfl
theorem fc_zero_54 : zeroB PP 54 = some [.slice none 0 0, .slice none 0 0] := by kernel_rfl
theorem fc_zero_76 : zeroB PP 76 = some [.int .i64 0, .int .i64 0] := by kernel_rfl
theorem fc_zero_81 : zeroB PP 81 = some [.int .i64 0, .int .i64 0, .slice none 0 0, .int .i64 0, .slice none 0 0] := by kernel_rfl
theorem fc_zero_84 : zeroB PP 84 = some [.int .i64 0, .int .i64 0, .slice none 0 0] := by kernel_rfl
theorem fc_zero_91 : zeroB PP 91 = some [.int .i64 0, .int .i64 0, .slice none 0 0, .slice none 0 0, .slice none 0 0] := by kernel_rfl
theorem fc_zero_98 : zeroB PP 98 = some [.pointer none, .pointer none, .pointer none, .int .u64 0] := by kernel_rfl
theorem fc_zint_3 : zintB PP 3 = true := by kernel_rfl
end Hd
end
section
/- Plain numbers: cells, neighbours, sectors. -/
namespace Hd

abbrev May (w h : Int) : Prop := (1 ≤ w ∧ w ≤ 1024) ∧ (1 ≤ h ∧ h ≤ 1024)
abbrev IsC (w h c : Int) : Prop := May w h ∧ (0 ≤ c ∧ c < w * h)
def cellN (w h x y : Int) : Int := if May w h ∧ (0 ≤ x ∧ x < w) ∧ (0 ≤ y ∧ y < h) then y * w + x else -1
def stepN (w h c s : Int) : Int :=
  if IsC w h c then
    if s = 0 then cellN w h (c % w) (c / w - 1)
    else if s = 1 then cellN w h (c % w + 1) (c / w)
    else if s = 2 then cellN w h (c % w) (c / w + 1)
    else if s = 3 then cellN w h (c % w - 1) (c / w)
    else if s = 4 then cellN w h (c % w) (c / w)
    else -1
  else -1
def acrN (n : Int) : Int := (n + 15) / 16
def secsN (w h : Int) : Int × Int := if May w h then (acrN w, acrN h) else (0, 0)
def sectorN (w h c : Int) : Int := if IsC w h c then c / w / 16 * acrN w + c % w / 16 else -1
abbrev IsS (w h s : Int) : Prop := May w h ∧ (0 ≤ s ∧ s < acrN w * acrN h)
def sizeN (w h s : Int) : Int × Int := if IsS w h s then (min 16 (w - s % acrN w * 16), min 16 (h - s / acrN w * 16)) else (0, 0)
def localN (w h c : Int) : Int := if IsC w h c then c / w % 16 * (sizeN w h (sectorN w h c)).1 + c % w % 16 else -1
def globalN (w h s l : Int) : Int :=
  if IsS w h s ∧ 0 ≤ l ∧ l < (sizeN w h s).1 * (sizeN w h s).2 then
    (s / acrN w * 16 + l / (sizeN w h s).1) * w + (s % acrN w * 16 + l % (sizeN w h s).1)
  else -1

/-! bounds -/
theorem may_mul {w h : Int} (m : May w h) : 1 ≤ w * h ∧ w * h ≤ 1048576 := by
  obtain ⟨⟨a, b⟩, c, d⟩ := m
  have h1 : 1 * 1 ≤ w * h := Int.mul_le_mul a c (by omega) (by omega)
  have h2 : w * h ≤ 1024 * 1024 := Int.mul_le_mul b d (by omega) (by omega)
  omega
theorem isc_xy {w h c : Int} (k : IsC w h c) : (0 ≤ c % w ∧ c % w < w) ∧ (0 ≤ c / w ∧ c / w < h) ∧ c = c / w * w + c % w := by
  obtain ⟨⟨⟨a, b⟩, c', d⟩, e, f⟩ := k
  refine ⟨⟨Int.emod_nonneg _ (by omega), Int.emod_lt_of_pos _ (by omega)⟩, ⟨Int.ediv_nonneg e (by omega), Int.ediv_lt_of_lt_mul (by omega) (by rw [Int.mul_comm]; exact f)⟩, ?_⟩
  rw [Int.mul_comm]; exact (Int.mul_ediv_add_emod c w).symm

theorem mul_1k {a b : Int} (h1 : 0 ≤ a) (h2 : a ≤ 1024) (h3 : 0 ≤ b) (h4 : b ≤ 1024) : 0 ≤ a * b ∧ a * b ≤ 1048576 := by
  have := Int.mul_nonneg h1 h3
  have : a * b ≤ 1024 * 1024 := Int.mul_le_mul h2 h4 h3 (by omega)
  omega
theorem acr_pos {w h : Int} (m : May w h) : (1 ≤ acrN w ∧ acrN w ≤ 64) ∧ (1 ≤ acrN h ∧ acrN h ≤ 64) := by unfold acrN; omega
theorem secs_mul (w h : Int) : 0 ≤ (secsN w h).1 * (secsN w h).2 ∧ (secsN w h).1 * (secsN w h).2 ≤ 1048576 := by
  unfold secsN
  split
  · rename_i m
    have := acr_pos m
    exact mul_1k (by omega) (by omega) (by omega) (by omega)
  · simp
theorem not_iss {w h s : Int} (h1 : (secsN w h).1 * (secsN w h).2 ≤ s) : ¬ IsS w h s := by
  rintro ⟨m, h2, h3⟩
  rw [secsN, if_pos m] at h1
  dsimp only at h1
  omega
theorem iss_of {w h s : Int} (h0 : ¬ s < 0) (h1 : ¬ (secsN w h).1 * (secsN w h).2 ≤ s) : IsS w h s := by
  unfold secsN at h1
  split at h1
  · rename_i m; dsimp only at h1; exact ⟨m, by omega, by omega⟩
  · simp at h1; omega
theorem iss_xy {w h s : Int} (k : IsS w h s) : (0 ≤ s % acrN w ∧ s % acrN w < acrN w) ∧ (0 ≤ s / acrN w ∧ s / acrN w < acrN h) := by
  obtain ⟨m, h0, h1⟩ := k
  have ha := acr_pos m
  exact ⟨⟨Int.emod_nonneg _ (by omega), Int.emod_lt_of_pos _ (by omega)⟩, Int.ediv_nonneg h0 (by omega), Int.ediv_lt_of_lt_mul (by omega) (by rw [Int.mul_comm]; exact h1)⟩
theorem min_ite (a b : Int) : min a b = if b < a then b else a := by
  by_cases h : b < a
  · rw [if_pos h]; omega
  · rw [if_neg h]; omega
theorem size_le (w h s : Int) : (0 ≤ (sizeN w h s).1 ∧ (sizeN w h s).1 ≤ 16) ∧ (0 ≤ (sizeN w h s).2 ∧ (sizeN w h s).2 ≤ 16) := by
  unfold sizeN
  split
  · rename_i k
    have := iss_xy k
    have hm := k.1
    have : acrN w * 16 ≤ w + 15 ∧ acrN h * 16 ≤ h + 15 := by unfold acrN; omega
    dsimp only
    omega
  · simp
theorem size_pos {w h s : Int} (k : IsS w h s) : (1 ≤ (sizeN w h s).1 ∧ s % acrN w * 16 + (sizeN w h s).1 ≤ w) ∧ (1 ≤ (sizeN w h s).2 ∧ s / acrN w * 16 + (sizeN w h s).2 ≤ h) := by
  rw [sizeN, if_pos k]
  have := iss_xy k
  have : acrN w * 16 ≤ w + 15 ∧ acrN h * 16 ≤ h + 15 := by unfold acrN; omega
  dsimp only
  omega
theorem global_xy {w h s l : Int} (k : IsS w h s) (h0 : 0 ≤ l) (h1 : l < (sizeN w h s).1 * (sizeN w h s).2) :
    (0 ≤ s % acrN w * 16 + l % (sizeN w h s).1 ∧ s % acrN w * 16 + l % (sizeN w h s).1 < w) ∧ (0 ≤ s / acrN w * 16 + l / (sizeN w h s).1 ∧ s / acrN w * 16 + l / (sizeN w h s).1 < h) ∧
    ((0 ≤ l % (sizeN w h s).1 ∧ l % (sizeN w h s).1 < (sizeN w h s).1) ∧ (0 ≤ l / (sizeN w h s).1 ∧ l / (sizeN w h s).1 < (sizeN w h s).2)) := by
  have hp := size_pos k
  have hq := iss_xy k
  have a1 := Int.emod_nonneg l (show (sizeN w h s).1 ≠ 0 by omega)
  have a2 := Int.emod_lt_of_pos l (show 0 < (sizeN w h s).1 by omega)
  have a3 := Int.ediv_nonneg h0 (show 0 ≤ (sizeN w h s).1 by omega)
  have a4 : l / (sizeN w h s).1 < (sizeN w h s).2 := Int.ediv_lt_of_lt_mul (by omega) (by rw [Int.mul_comm]; exact h1)
  omega
end Hd
end
section
namespace Hd
open Go
/-! ## how the program's data lie -/
def eI : Enc Int := ⟨3, 1, fun x => [.int .i64 x], fun _ => rfl, by decide, by simp [Value.oneCell']⟩
def eL : Enc Int := ⟨2, 1, fun x => [.int .i64 x], fun _ => rfl, by decide, by simp [Value.oneCell']⟩
def eB : Enc Int := ⟨5, 1, fun x => [.int .u8 x], fun _ => rfl, by decide, by simp [Value.oneCell']⟩
def eW : Enc Int := ⟨21, 1, fun x => [.int .i32 x], fun _ => rfl, by decide, by simp [Value.oneCell']⟩
def eT : Enc Bool := ⟨4, 1, fun x => [.bool x], fun _ => rfl, by decide, by simp [Value.oneCell']⟩
structure Seed where
  cell : Int
  side : Int
  key : Int
deriving DecidableEq, Repr, Inhabited
def eS : Enc Seed := ⟨45, 3, fun x => [.int .i64 x.cell, .int .i64 x.side, .int .i64 x.key], fun _ => rfl, by decide, by simp [Value.oneCell']⟩
structure Edg where
  to : Int
  cost : Int
deriving DecidableEq, Repr, Inhabited
def eE : Enc Edg := ⟨76, 2, fun x => [.int .i64 x.to, .int .i64 x.cost], fun _ => rfl, by decide, by simp [Value.oneCell']⟩
structure Ent where
  key : Int
  item : Int
deriving DecidableEq, Repr, Inhabited
def eH : Enc Ent := ⟨160, 2, fun x => [.int .i64 x.key, .int .i64 x.item], fun _ => rfl, by decide, by simp [Value.oneCell']⟩

section
variable {P : Program} {g : Gl} {n : Nat} {env : Env} {L : List HP} {dst : Option Tmp} {ty : TypeId} {pos : String} {af : Array Edge} {gd : Option (Nat × Bool)}
theorem ld_eS {s : Value} {xs : List Seed} {t : TypeId} {x : Operand} {i : Nat} {y : Seed} (hx : env.ev x = some (ead s i 3 0)) [m : Rd L s Seed eS xs] (hi : xs[i]? = some y) (ht : aggB P t 3 = true) :
    PO P g n env L ⟨dst, .load t x, ty, pos, af, gd⟩ (.agg [.int .i64 y.cell, .int .i64 y.side, .int .i64 y.key].toArray) := po_loada_sl (E := eS) hx hi ht
theorem ld_eE {s : Value} {xs : List Edg} {t : TypeId} {x : Operand} {i : Nat} {y : Edg} (hx : env.ev x = some (ead s i 2 0)) [m : Rd L s Edg eE xs] (hi : xs[i]? = some y) (ht : aggB P t 2 = true) :
    PO P g n env L ⟨dst, .load t x, ty, pos, af, gd⟩ (.agg [.int .i64 y.to, .int .i64 y.cost].toArray) := po_loada_sl (E := eE) hx hi ht
theorem ld_eH {s : Value} {xs : List Ent} {t : TypeId} {x : Operand} {i : Nat} {y : Ent} (hx : env.ev x = some (ead s i 2 0)) [m : Rd L s Ent eH xs] (hi : xs[i]? = some y) (ht : aggB P t 2 = true) :
    PO P g n env L ⟨dst, .load t x, ty, pos, af, gd⟩ (.agg [.int .i64 y.key, .int .i64 y.item].toArray) := po_loada_sl (E := eH) hx hi ht
theorem st_eS {s : Value} {xs : List Seed} {R : List HP} {t : TypeId} {x z : Operand} {i : Nat} {y : Seed} (hx : env.ev x = some (ead s i 3 0)) (hz : env.ev z = some (.agg [.int .i64 y.cell, .int .i64 y.side, .int .i64 y.key].toArray)) [m : HasSl L s Seed eS xs R] (hi : i < xs.length) (ht : aggB P t 3 = true) :
    SO P g n env L ⟨dst, .store t x z, ty, pos, af, gd⟩ (Sl eS s (xs.set i y) :: R) := so_storea_sl (E := eS) (y' := y) hx hz hi ht
theorem st_eH {s : Value} {xs : List Ent} {R : List HP} {t : TypeId} {x z : Operand} {i : Nat} {y : Ent} (hx : env.ev x = some (ead s i 2 0)) (hz : env.ev z = some (.agg [.int .i64 y.key, .int .i64 y.item].toArray)) [m : HasSl L s Ent eH xs R] (hi : i < xs.length) (ht : aggB P t 2 = true) :
    SO P g n env L ⟨dst, .store t x z, ty, pos, af, gd⟩ (Sl eH s (xs.set i y) :: R) := so_storea_sl (E := eH) (y' := y) hx hz hi ht
end

/-- a grid -/
structure GridS where
  b : Nat
  w : Int
  h : Int
  cv : Value
  c : List Int
  ep : Int
  vv : Value
  vs : List Int
abbrev GridS.l (s : GridS) : List HP := [Blk s.b 81 [.int .i64 s.w, .int .i64 s.h, s.cv, .int .i64 s.ep, s.vv], Sl eB s.cv s.c, Sl eL s.vv s.vs]
abbrev GridS.p (s : GridS) : Value := .pointer (some ⟨s.b, 0, none⟩)
end Hd
end
section
namespace Hd
set_option maxRecDepth 100000
open Go

theorem clone_B (s : Value) (xs : List Int) (hl : xs.length ≤ 2^30) : Spec PP 60 #[s] [Sl eB s xs] (fun v M => M = [Sl eB s xs, Sl eB v xs]) := by
  refine spec_of (Go.Proofs.Tryz.func60) rfl rfl rfl (by exact fc_enters_60) ?_
  intro g F
  try dsimp only [ca, na]
  refine Sq (Rg ?_)
  refine rp 1 rfl ?_
  refine Sn (Aw (Sq (Sq (Rg ?_))))
  refine rp 1 rfl ?_
  refine Wp (po_seq rfl rfl (by exact fc_slice_22_5_1)) ?_
  refine Sn (Aw ?_)
  refine Rc rfl ?_ ?_
  ·skip
   intro hn
   refine wp_pure (rd_nil (E := eB) hn) (fun e => ?_)
   subst e
   refine Sq (Rg ?_)
   refine rp 1 rfl ?_
   refine Sn (Aw (Rt (Ar ?_)))
   refine at_ret1 rfl (rv_tmp rfl) ⟨_, rfl, ?_⟩
   try dsimp only [ca, na]
   exact ent
  ·skip
   intro hn
   refine Sk (Aw (Sq (Rg ?_)))
   refine Wx (xo_bslice eB [] rfl (by exact fc_slice_22_5_1) (by exact fc_elem_5_1_1) trivial rfl (by decide)) ?_
   rintro v5 _ rfl
   refine rp 1 rfl ?_
   refine Wx (xo_append rfl rfl (by exact fc_slice_22_5_1) (by exact fc_slice_22_5_1) (by exact fc_elem_5_1_1) (by first | omega | (simp <;> omega)) (by first | omega | (simp <;> omega))) ?_
   rintro v7 _ rfl
   refine rp 1 rfl ?_
   refine Sn (Aw (Rt ?_))
   refine at_ret1 rfl (rv_tmp rfl) ⟨_, rfl, ?_⟩
   try dsimp only [ca, na]
   exact ent

theorem clone_S (s : Value) (xs : List Seed) (hl : xs.length ≤ 2^30) : Spec PP 75 #[s] [Sl eS s xs] (fun v M => M = [Sl eS s xs, Sl eS v xs]) := by
  refine spec_of (Go.Proofs.Tryz.func75) rfl rfl rfl (by exact fc_enters_75) ?_
  intro g F
  try dsimp only [ca, na]
  refine Sq (Rg ?_)
  refine rp 1 rfl ?_
  refine Sn (Aw (Sq (Sq (Rg ?_))))
  refine rp 1 rfl ?_
  refine Wp (po_seq rfl rfl (by exact fc_slice_32_45_3)) ?_
  refine Sn (Aw ?_)
  refine Rc rfl ?_ ?_
  ·skip
   intro hn
   refine wp_pure (rd_nil (E := eS) hn) (fun e => ?_)
   subst e
   refine Sq (Rg ?_)
   refine rp 1 rfl ?_
   refine Sn (Aw (Rt (Ar ?_)))
   refine at_ret1 rfl (rv_tmp rfl) ⟨_, rfl, ?_⟩
   try dsimp only [ca, na]
   exact ent
  ·skip
   intro hn
   refine Sk (Aw (Sq (Rg ?_)))
   refine Wx (xo_bslice eS [] rfl (by exact fc_slice_32_45_3) (by exact fc_elem_45_3_24) trivial rfl (by decide)) ?_
   rintro v5 _ rfl
   refine rp 1 rfl ?_
   refine Wx (xo_append rfl rfl (by exact fc_slice_32_45_3) (by exact fc_slice_32_45_3) (by exact fc_elem_45_3_24) (by first | omega | (simp <;> omega)) (by first | omega | (simp <;> omega))) ?_
   rintro v7 _ rfl
   refine rp 1 rfl ?_
   refine Sn (Aw (Rt ?_))
   refine at_ret1 rfl (rv_tmp rfl) ⟨_, rfl, ?_⟩
   try dsimp only [ca, na]
   exact ent

theorem clone_I (s : Value) (xs : List Int) (hl : xs.length ≤ 2^30) : Spec PP 118 #[s] [Sl eI s xs] (fun v M => M = [Sl eI s xs, Sl eI v xs]) := by
  refine spec_of (Go.Proofs.Tryz.func118) rfl rfl rfl (by exact fc_enters_118) ?_
  intro g F
  try dsimp only [ca, na]
  refine Sq (Rg ?_)
  refine rp 1 rfl ?_
  refine Sn (Aw (Sq (Sq (Rg ?_))))
  refine rp 1 rfl ?_
  refine Wp (po_seq rfl rfl (by exact fc_slice_35_3_1)) ?_
  refine Sn (Aw ?_)
  refine Rc rfl ?_ ?_
  ·skip
   intro hn
   refine wp_pure (rd_nil (E := eI) hn) (fun e => ?_)
   subst e
   refine Sq (Rg ?_)
   refine rp 1 rfl ?_
   refine Sn (Aw (Rt (Ar ?_)))
   refine at_ret1 rfl (rv_tmp rfl) ⟨_, rfl, ?_⟩
   try dsimp only [ca, na]
   exact ent
  ·skip
   intro hn
   refine Sk (Aw (Sq (Rg ?_)))
   refine Wx (xo_bslice eI [] rfl (by exact fc_slice_35_3_1) (by exact fc_elem_3_1_8) trivial rfl (by decide)) ?_
   rintro v5 _ rfl
   refine rp 1 rfl ?_
   refine Wx (xo_append rfl rfl (by exact fc_slice_35_3_1) (by exact fc_slice_35_3_1) (by exact fc_elem_3_1_8) (by first | omega | (simp <;> omega)) (by first | omega | (simp <;> omega))) ?_
   rintro v7 _ rfl
   refine rp 1 rfl ?_
   refine Sn (Aw (Rt ?_))
   refine at_ret1 rfl (rv_tmp rfl) ⟨_, rfl, ?_⟩
   try dsimp only [ca, na]
   exact ent

/-- the first place of a byte; -1 -/
theorem index_B (s : Value) (xs : List Int) (y : Int) (hl : xs.length ≤ 2^30) : Spec PP 115 #[s, .int .u8 y] [Sl eB s xs] (fun v M => (∃ r : Int, v = .int .i64 r ∧ -1 ≤ r ∧ (0 ≤ r ↔ y ∈ xs)) ∧ M = [Sl eB s xs]) := by
  refine spec_of (Go.Proofs.Tryz.func115) rfl rfl rfl (by exact fc_enters_115) ?_
  intro g F
  try dsimp only [ca, na]
  refine Sq (Rg ?_)
  refine rp 1 rfl ?_
  refine Sn (Aw (Sq (Sq (Rg ?_))))
  refine rp 1 rfl ?_
  refine Wp (po_len rfl (by exact fc_slice_22_5_1)) ?_
  refine rp 1 rfl ?_
  refine Sn (Aw (Bk ?_))
  refine r_loop (S := Nat) (fun k => [(8, .int .i64 k)]) [(0, _), (1, _), (7, _)] (fun k => [Sl eB s xs, F]) (fun k => k ≤ xs.length ∧ ∀ j, (h : j < xs.length) → j < k → xs[j] ≠ y) (fun k => xs.length - k) (0) (And.intro rfl (And.intro rfl (And.intro rfl (trivial)))) (And.intro rfl (trivial)) (⟨by omega, fun j _ h => by omega⟩) ent ?_
  rintro k ⟨hk, hne⟩
  try dsimp only [ca, na]
  refine Sq (Rg ?_)
  refine Wp (po_lt rfl rfl) ?_
  refine Sn (Aw (Sq ?_))
  refine Rc rfl ?_ ?_
  ·skip
   intro hlt
   refine Sk (Aw (Sq (Bk (Sq (Rg ?_)))))
   refine rp 2 rfl ?_
   refine Sn (Aw (Sq (Rg ?_)))
   refine rp 3 rfl ?_
   refine Wp (po_iaddr rfl rfl (by exact fc_slice_22_5_1) (by first | omega | (simp <;> omega)) (by first | omega | (simp <;> omega))) ?_
   refine Wp (po_load_sl rfl (List.getElem?_eq_getElem (by first | omega | (simp <;> omega))) (by exact fc_flat_5) (by rfl)) ?_
   refine Wp (po_eq rfl rfl) ?_
   refine Sn (Aw ?_)
   refine Rc rfl ?_ ?_
   ·skip
    intro heq
    refine Sq (Rg ?_)
    refine rp 2 rfl ?_
    refine Sn (Aw (Rt (Br (Ar (Ar (Br (Ar ?_)))))))
    refine at_ret1 rfl (rv_tmp rfl) ⟨_, ⟨⟨_, rfl, by omega, by simp only [Int.natCast_nonneg, true_iff]; rw [heq]; exact List.getElem_mem _⟩, rfl⟩, ?_⟩
    try dsimp only [ca, na]
    exact ent
   ·skip
    intro heq
    refine Sk (Bn (Aw (Rg ?_)))
    refine Wp (po_add' rfl rfl (by omega) (by omega)) ?_
    refine rp 1 rfl ?_
    refine Sn ?_
    exact at_again (k + 1) (And.intro rfl (trivial)) (And.intro rfl (And.intro rfl (And.intro rfl (trivial)))) (⟨by omega, fun j hj h => by by_cases e : j = k; exact (fun h2 => heq (by subst e; simpa using h2.symm)); exact hne j hj (by omega)⟩) (by omega) ent
  ·skip
   intro hlt
   refine Ex' (Ax (Ax (Bh (Aw (Sq (Rg ?_))))))
   refine rp 1 rfl ?_
   refine Sn (Aw (Rt ?_))
   refine at_ret1 rfl (rv_tmp rfl) ⟨_, ⟨⟨_, rfl, by omega, by constructor; intro h; omega; intro h; obtain ⟨j, hj, e⟩ := List.getElem_of_mem h; exact absurd e (hne j hj (by omega))⟩, rfl⟩, ?_⟩
   try dsimp only [ca, na]
   exact ent

theorem contains_B (s : Value) (xs : List Int) (y : Int) (hl : xs.length ≤ 2^30) : Spec PP 89 #[s, .int .u8 y] [Sl eB s xs] (fun v M => v = .bool (decide (y ∈ xs)) ∧ M = [Sl eB s xs]) := by
  refine spec_of (Go.Proofs.Tryz.func89) rfl rfl rfl (by exact fc_enters_89) ?_
  intro g F
  try dsimp only [ca, na]
  refine Sq (Rg ?_)
  refine rp 1 rfl ?_
  refine Sn (Aw (Sq (Rg ?_)))
  refine rp 2 rfl ?_
  refine Wc (co_fn rfl rfl) (index_B s xs y hl) ?_
  rintro v7 _ ⟨⟨r, rfl, hr, he⟩, rfl⟩
  try dsimp only [ca, na]
  refine Wp (po_ge rfl rfl) ?_
  refine rp 1 rfl ?_
  refine Sn (Aw (Rt ?_))
  refine at_ret1 rfl (rv_tmp rfl) ⟨_, ⟨congrArg Value.bool (decide_eq_decide.2 he), rfl⟩, ?_⟩
  try dsimp only [ca, na]
  exact ent

theorem bits_Mul64 (y : Int) (h0 : 0 ≤ y) (h1 : y < 4294967296) : Spec PP 138 #[.int .u64 1, .int .u64 y] [] (fun v M => v = .tuple #[.int .u64 0, .int .u64 y] ∧ M = []) := by
  refine spec_of (Go.Proofs.Tryz.func138) rfl rfl rfl (by exact fc_enters_138) ?_
  intro g F
  try dsimp only [ca, na]
  refine Sq (Rg ?_)
  refine rp 2 rfl ?_
  refine Sn (Aw (Sq (Rg ?_)))
  refine rp 1 rfl ?_
  refine Wp (po_and32 rfl rfl (by omega) (by omega)) ?_
  refine rp 1 rfl ?_
  refine Sn (Aw (Sq (Rg ?_)))
  refine rp 1 rfl ?_
  refine Wp (po_shr (m := 32) rfl rfl (by decide)) ?_
  refine rp 1 rfl ?_
  refine Sn (Aw (Sq ?_))
  rw [show (1 : Int) / 2 ^ 32 = 0 from by decide]
  refine Rg ?_
  refine rp 1 rfl ?_
  refine Wp (po_and32 rfl rfl (by omega) (by omega)) ?_
  refine rp 1 rfl ?_
  refine Sn (Aw (Sq (Rg ?_)))
  refine rp 1 rfl ?_
  refine Wp (po_shr (m := 32) rfl rfl (by decide)) ?_
  refine rp 1 rfl ?_
  refine Sn (Aw (Sq ?_))
  rw [show y / 2 ^ 32 = 0 from by omega]
  refine Rg ?_
  refine rp 2 rfl ?_
  refine Wp (po_mul_w rfl rfl (wrap_u64 _ (by omega) (by omega))) ?_
  refine rp 1 rfl ?_
  refine Sn (Aw (Sq ?_))
  rw [Int.one_mul]
  refine Rg ?_
  refine rp 2 rfl ?_
  refine Wp (po_mul_w rfl rfl (wrap_u64 _ (by omega) (by omega))) ?_
  refine rp 1 rfl ?_
  refine Wp (po_shr (m := 32) rfl rfl (by decide)) ?_
  refine Wp (po_add_w rfl rfl (wrap_u64 _ (by omega) (by omega))) ?_
  refine rp 1 rfl ?_
  refine Sn (Aw (Sq ?_))
  rw [show 0 * y + y / 2 ^ 32 = 0 from by omega]
  refine Rg ?_
  refine rp 1 rfl ?_
  refine Wp (po_and32 rfl rfl (by omega) (by omega)) ?_
  refine rp 1 rfl ?_
  refine Sn (Aw (Sq (Rg ?_)))
  refine rp 1 rfl ?_
  refine Wp (po_shr (m := 32) rfl rfl (by decide)) ?_
  refine rp 1 rfl ?_
  refine Sn (Aw (Sq ?_))
  rw [show (0 : Int) / 2 ^ 32 = 0 from by decide]
  refine Rg ?_
  refine rp 3 rfl ?_
  refine Wp (po_mul_w rfl rfl (wrap_u64 _ (by omega) (by omega))) ?_
  refine Wp (po_add_w rfl rfl (wrap_u64 _ (by omega) (by omega))) ?_
  refine rp 1 rfl ?_
  refine Sn (Aw (Sq ?_))
  rw [show (0 : Int) + 1 * 0 = 0 from by decide]
  refine Rg ?_
  refine rp 2 rfl ?_
  refine Wp (po_mul_w rfl rfl (wrap_u64 _ (by omega) (by omega))) ?_
  refine rp 1 rfl ?_
  refine Wp (po_add_w rfl rfl (wrap_u64 _ (by omega) (by omega))) ?_
  refine rp 1 rfl ?_
  refine Wp (po_shr (m := 32) rfl rfl (by decide)) ?_
  refine Wp (po_add_w rfl rfl (wrap_u64 _ (by omega) (by omega))) ?_
  refine rp 1 rfl ?_
  refine Sn (Aw (Sq ?_))
  rw [show (0 : Int) * 0 + 0 + 0 / 2 ^ 32 = 0 from by decide]
  refine Rg ?_
  refine rp 2 rfl ?_
  refine Wp (po_mul_w rfl rfl (wrap_u64 _ (by omega) (by omega))) ?_
  refine rp 1 rfl ?_
  refine Sn (Aw (Rt ?_))
  refine at_ret2 rfl (rv_tmp rfl) (rv_tmp rfl) ⟨_, ⟨by rw [Int.one_mul], rfl⟩, ?_⟩
  try dsimp only [ca, na]
  exact ent
theorem bits_Mul (x y : Int) (hx : x = 1) (h0 : 0 ≤ y) (h1 : y < 4294967296) : Spec PP 109 #[.int .u64 x, .int .u64 y] [] (fun v M => v = .tuple #[.int .u64 0, .int .u64 y] ∧ M = []) := by
  subst hx
  refine spec_of (Go.Proofs.Tryz.func109) rfl rfl rfl (by exact fc_enters_109) ?_
  intro g F
  try dsimp only [ca, na]
  refine Sq (Rg ?_)
  refine rp 2 rfl ?_
  refine Sn (Aw (Sq ?_))
  refine r_cond_f rfl rfl ?_
  refine Sk (Aw (Sq (Rg ?_)))
  refine rp 2 rfl ?_
  refine Wc (co_fn rfl rfl) (bits_Mul64 y h0 h1) ?_
  rintro v25 _ ⟨rfl, rfl⟩
  try dsimp only [ca, na]
  refine rp 5 rfl ?_
  refine Sn (Aw (Sq (Rg ?_)))
  refine rp 4 rfl ?_
  refine Sn (Aw (Rt ?_))
  refine at_ret2 rfl (rv_tmp rfl) (rv_tmp rfl) ⟨_, ⟨rfl, rfl⟩, ?_⟩
  try dsimp only [ca, na]
  exact ent

theorem rep_copy {α : Type} (a z : α) (k n : Nat) (hk : k ≤ n) (zs : List α) (hz : zs = ((List.take k (List.replicate k a ++ List.replicate (n - k) z)).drop 0).take ((List.replicate k a ++ List.replicate (n - k) z).length - k)) :
    List.take k (List.replicate k a ++ List.replicate (n - k) z) ++ (zs ++ List.drop (k + zs.length) (List.replicate k a ++ List.replicate (n - k) z)) = List.replicate (k + zs.length) a ++ List.replicate (n - (k + zs.length)) z ∧ zs.length = min k (n - k) := by
  have e1 : List.take k (List.replicate k a ++ List.replicate (n - k) z) = List.replicate k a := by
    rw [List.take_append_of_le_length (by simp)]; simp
  have hz' : zs = List.replicate (min k (n - k)) a := by
    rw [hz, e1, List.drop_zero, List.take_replicate]; congr 1; simp; omega
  have hzl : zs.length = min k (n - k) := by rw [hz']; simp
  refine ⟨?_, hzl⟩
  rw [e1, hzl, hz', List.drop_append, List.drop_replicate, List.drop_replicate, ← List.append_assoc, ← List.append_assoc, List.replicate_append_replicate, List.replicate_append_replicate]
  congr 2
  · omega
  · simp; omega

theorem rep_init {α : Type} (a z : α) (n : Nat) (xs : List α) (hx : xs = [a]) : List.take (List.replicate n z).length xs ++ List.drop (List.take (List.replicate n z).length xs).length (List.replicate n z) = List.replicate (List.take (List.replicate n z).length xs).length a ++ List.replicate (n - (List.take (List.replicate n z).length xs).length) z ∧
    (List.take (List.replicate n z).length xs).length = min n 1 := by
  subst hx
  cases n with
  | zero => simp
  | succ m => simp

theorem repeat_I' (s : Value) (xs : List Int) (a : Int) (hx : xs = [a]) (hx1 : xs.length = 1) (n : Int) (h0 : 0 ≤ n) (h1 : n ≤ 2^30) : Spec PP 84 #[s, .int .i64 n] [Sl eI s xs] (fun v M => M = [Sl eI v (List.replicate n.toNat a)]) := by
  refine spec_of (Go.Proofs.Tryz.func84) rfl rfl rfl (by exact fc_enters_84) ?_
  intro g F
  try dsimp only [ca, na]
  refine Sq (Rg ?_)
  refine rp 1 rfl ?_
  refine Sn (Aw (Sq (Sq (Rg ?_))))
  refine rp 1 rfl ?_
  refine Wp (po_lt rfl rfl) ?_
  refine Sn (Aw ?_)
  first | refine r_dec_f rfl (by omega) ?_ | refine r_nd_f rfl (by omega) ?_ | refine r_cond_f rfl (by omega) ?_
  refine Sk (Aw (Sq (Rg ?_)))
  refine rp 1 rfl ?_
  refine Wp (po_len rfl (by exact fc_slice_35_3_1)) ?_
  refine Wp (po_conv_w rfl (by exact fc_int_3_i64) (by exact fc_int_139_u64) (wrap_u64 _ (by omega) (by omega))) ?_
  refine rp 1 rfl ?_
  refine Wp (po_conv_w rfl (by exact fc_int_3_i64) (by exact fc_int_139_u64) (wrap_u64 _ (by omega) (by omega))) ?_
  refine Wc (co_fn rfl rfl) (bits_Mul xs.length n (by omega) h0 (by omega)) ?_
  rintro v18 _ ⟨rfl, rfl⟩
  try dsimp only [ca, na]
  refine rp 5 rfl ?_
  refine Sn (Aw (Sq (Sq (Rg ?_))))
  refine rp 1 rfl ?_
  refine Wp (po_gt rfl rfl) ?_
  refine Wp (po_bf (po_move rfl) (decide_eq_false (by omega))) ?_
  refine rp 1 rfl ?_
  refine Wp (po_gt rfl rfl) ?_
  refine rp 1 rfl ?_
  refine Sn (Aw ?_)
  first | refine r_dec_f rfl (by omega) ?_ | refine r_nd_f rfl (by omega) ?_ | refine r_cond_f rfl (by omega) ?_
  refine Sk (Aw (Sq (Rg ?_)))
  refine rp 1 rfl ?_
  refine Wp (po_conv_w rfl (by exact fc_int_139_u64) (by exact fc_int_3_i64) (wrap_i64 _ (by omega) (by omega))) ?_
  refine Wx (xo_make eI (0) rfl rfl (by exact fc_slice_35_3_1) (by exact fc_elem_3_1_8) (by exact fc_zero_3) rfl (by first | omega | (simp <;> omega)) (by first | omega | (simp <;> omega)) (by first | omega | (simp <;> omega))) ?_
  rintro v30 _ rfl
  refine rp 1 rfl ?_
  refine Sn (Aw (Sq (Rg ?_)))
  refine rp 2 rfl ?_
  refine Wx (xo_copy0 rfl rfl (by exact fc_slice_35_3_1) rfl) ?_
  rintro _ _ ⟨rfl, rfl⟩
  refine rp 1 rfl ?_
  refine Sn (Aw (Sq (Bk ?_)))
  obtain ⟨e0, e1⟩ := rep_init a (0 : Int) n.toNat xs hx
  rw [e0]
  generalize (List.take (List.replicate n.toNat (0 : Int)).length xs).length = k0 at *
  refine r_loop (S := Nat) (fun k => [(8, .int .i64 k)]) [(7, _)] (fun k => [Sl eI v30 (List.replicate k a ++ List.replicate (n.toNat - k) 0), F]) (fun k => k ≤ n.toNat ∧ (k = 0 → n.toNat = 0)) (fun k => n.toNat - k) (k0) (And.intro rfl (trivial)) (And.intro rfl (trivial)) (by omega) ent ?_
  rintro k ⟨hk1, hk2⟩
  try dsimp only [ca, na]
  have hll : (List.replicate k a ++ List.replicate (n.toNat - k) (0 : Int)).length = n.toNat := by simp; omega
  refine Sq (Sq (Rg ?_))
  refine rp 2 rfl ?_
  refine Wp (po_len rfl (by exact fc_slice_35_3_1)) ?_
  refine Wp (po_lt rfl rfl) ?_
  refine Sn (Aw ?_)
  refine Rc rfl ?_ ?_
  ·skip
   intro hlt
   rw [hll] at hlt
   refine Sk (Aw (Bk ?_))
   refine r_ord [7] _ [(0, 1), (1, 1), (2, 1), (3, 0), (4, 1), (5, 1), (6, 0), (7, 2), (8, 2), (9, 1)] fc_mixed (by kernel_rfl) (fun _ h => h) ?_
   refine Of rfl (po_move rfl) ?_
   refine Of rfl (po_move rfl) ?_
   refine Of rfl (po_move rfl) ?_
   refine Or rfl (po_slice_l rfl rfl (by exact fc_slice_35_3_1) (by first | omega | (simp <;> omega)) (by first | omega | (simp <;> omega))) ?_
   refine Of rfl (po_move rfl) ?_
   refine Of rfl (po_move rfl) ?_
   refine Or rfl (po_slice_h rfl rfl (by exact fc_slice_35_3_1) (by first | omega | (simp <;> omega)) (by first | omega | (simp <;> omega))) ?_
   refine o_st rfl (st_xo (xo_copy (m2 := rd_sub 0 (k : Int).toNat (by omega) (by simp only [List.length_append, List.length_replicate]; omega)) rfl rfl (by exact fc_slice_35_3_1) (by simp only [List.length_append, List.length_replicate]; omega) rfl) rfl rfl rfl ?_)
   rintro _ _ ⟨rfl, rfl⟩
   refine ⟨fun h => late_no h (by kernel_rfl), ?_⟩
   refine o_st rfl (st_po (po_add' rfl rfl (by omega) (by simp only [List.length_take, List.length_drop, List.length_append, List.length_replicate]; omega)) rfl rfl rfl ?_)
   refine ⟨fun h => late_no h (by kernel_rfl), ?_⟩
   refine Of rfl (po_assign rfl) ?_
   refine o_nil ?_
   refine Bn ?_
   simp only [Int.toNat_natCast]
   generalize hz : List.take ((List.replicate k a ++ List.replicate (n.toNat - k) (0 : Int)).length - k) (List.drop 0 (List.take k (List.replicate k a ++ List.replicate (n.toNat - k) 0))) = zs
   obtain ⟨e2, e3⟩ := rep_copy a (0 : Int) k n.toNat hk1 zs hz.symm
   rw [e2]
   exact at_again (k + zs.length) (And.intro rfl (trivial)) (And.intro rfl (trivial)) (by omega) (by omega) ent
  ·skip
   intro hlt
   refine Ex' (Ax (Ax (Bh (Aw (Sq (Rg ?_))))))
   refine rp 2 rfl ?_
   refine Sn (Aw (Rt ?_))
   rw [hll] at hlt
   have hkn : k = n.toNat := by omega
   subst hkn
   rw [Nat.sub_self, List.replicate_zero, List.append_nil]
   refine at_ret1 rfl (rv_tmp rfl) ⟨_, rfl, ?_⟩
   try dsimp only [ca, na]
   exact ent
theorem repeat_W' (s : Value) (xs : List Int) (a : Int) (hx : xs = [a]) (hx1 : xs.length = 1) (n : Int) (h0 : 0 ≤ n) (h1 : n ≤ 2^30) : Spec PP 92 #[s, .int .i64 n] [Sl eW s xs] (fun v M => M = [Sl eW v (List.replicate n.toNat a)]) := by
  refine spec_of (Go.Proofs.Tryz.func92) rfl rfl rfl (by exact fc_enters_92) ?_
  intro g F
  try dsimp only [ca, na]
  refine Sq (Rg ?_)
  refine rp 1 rfl ?_
  refine Sn (Aw (Sq (Sq (Rg ?_))))
  refine rp 1 rfl ?_
  refine Wp (po_lt rfl rfl) ?_
  refine Sn (Aw ?_)
  first | refine r_dec_f rfl (by omega) ?_ | refine r_nd_f rfl (by omega) ?_ | refine r_cond_f rfl (by omega) ?_
  refine Sk (Aw (Sq (Rg ?_)))
  refine rp 1 rfl ?_
  refine Wp (po_len rfl (by exact fc_slice_82_21_1)) ?_
  refine Wp (po_conv_w rfl (by exact fc_int_3_i64) (by exact fc_int_139_u64) (wrap_u64 _ (by omega) (by omega))) ?_
  refine rp 1 rfl ?_
  refine Wp (po_conv_w rfl (by exact fc_int_3_i64) (by exact fc_int_139_u64) (wrap_u64 _ (by omega) (by omega))) ?_
  refine Wc (co_fn rfl rfl) (bits_Mul xs.length n (by omega) h0 (by omega)) ?_
  rintro v18 _ ⟨rfl, rfl⟩
  try dsimp only [ca, na]
  refine rp 5 rfl ?_
  refine Sn (Aw (Sq (Sq (Rg ?_))))
  refine rp 1 rfl ?_
  refine Wp (po_gt rfl rfl) ?_
  refine Wp (po_bf (po_move rfl) (decide_eq_false (by omega))) ?_
  refine rp 1 rfl ?_
  refine Wp (po_gt rfl rfl) ?_
  refine rp 1 rfl ?_
  refine Sn (Aw ?_)
  first | refine r_dec_f rfl (by omega) ?_ | refine r_nd_f rfl (by omega) ?_ | refine r_cond_f rfl (by omega) ?_
  refine Sk (Aw (Sq (Rg ?_)))
  refine rp 1 rfl ?_
  refine Wp (po_conv_w rfl (by exact fc_int_139_u64) (by exact fc_int_3_i64) (wrap_i64 _ (by omega) (by omega))) ?_
  refine Wx (xo_make eW (0) rfl rfl (by exact fc_slice_82_21_1) (by exact fc_elem_21_1_4) (by exact fc_zero_21) rfl (by first | omega | (simp <;> omega)) (by first | omega | (simp <;> omega)) (by first | omega | (simp <;> omega))) ?_
  rintro v30 _ rfl
  refine rp 1 rfl ?_
  refine Sn (Aw (Sq (Rg ?_)))
  refine rp 2 rfl ?_
  refine Wx (xo_copy0 rfl rfl (by exact fc_slice_82_21_1) rfl) ?_
  rintro _ _ ⟨rfl, rfl⟩
  refine rp 1 rfl ?_
  refine Sn (Aw (Sq (Bk ?_)))
  obtain ⟨e0, e1⟩ := rep_init a (0 : Int) n.toNat xs hx
  rw [e0]
  generalize (List.take (List.replicate n.toNat (0 : Int)).length xs).length = k0 at *
  refine r_loop (S := Nat) (fun k => [(8, .int .i64 k)]) [(7, _)] (fun k => [Sl eW v30 (List.replicate k a ++ List.replicate (n.toNat - k) 0), F]) (fun k => k ≤ n.toNat ∧ (k = 0 → n.toNat = 0)) (fun k => n.toNat - k) (k0) (And.intro rfl (trivial)) (And.intro rfl (trivial)) (by omega) ent ?_
  rintro k ⟨hk1, hk2⟩
  try dsimp only [ca, na]
  have hll : (List.replicate k a ++ List.replicate (n.toNat - k) (0 : Int)).length = n.toNat := by simp; omega
  refine Sq (Sq (Rg ?_))
  refine rp 2 rfl ?_
  refine Wp (po_len rfl (by exact fc_slice_82_21_1)) ?_
  refine Wp (po_lt rfl rfl) ?_
  refine Sn (Aw ?_)
  refine Rc rfl ?_ ?_
  ·skip
   intro hlt
   rw [hll] at hlt
   refine Sk (Aw (Bk ?_))
   refine r_ord [7] _ [(0, 1), (1, 1), (2, 1), (3, 0), (4, 1), (5, 1), (6, 0), (7, 2), (8, 2), (9, 1)] fc_mixed (by kernel_rfl) (fun _ h => h) ?_
   refine Of rfl (po_move rfl) ?_
   refine Of rfl (po_move rfl) ?_
   refine Of rfl (po_move rfl) ?_
   refine Or rfl (po_slice_l rfl rfl (by exact fc_slice_82_21_1) (by first | omega | (simp <;> omega)) (by first | omega | (simp <;> omega))) ?_
   refine Of rfl (po_move rfl) ?_
   refine Of rfl (po_move rfl) ?_
   refine Or rfl (po_slice_h rfl rfl (by exact fc_slice_82_21_1) (by first | omega | (simp <;> omega)) (by first | omega | (simp <;> omega))) ?_
   refine o_st rfl (st_xo (xo_copy (m2 := rd_sub 0 (k : Int).toNat (by omega) (by simp only [List.length_append, List.length_replicate]; omega)) rfl rfl (by exact fc_slice_82_21_1) (by simp only [List.length_append, List.length_replicate]; omega) rfl) rfl rfl rfl ?_)
   rintro _ _ ⟨rfl, rfl⟩
   refine ⟨fun h => late_no h (by kernel_rfl), ?_⟩
   refine o_st rfl (st_po (po_add' rfl rfl (by omega) (by simp only [List.length_take, List.length_drop, List.length_append, List.length_replicate]; omega)) rfl rfl rfl ?_)
   refine ⟨fun h => late_no h (by kernel_rfl), ?_⟩
   refine Of rfl (po_assign rfl) ?_
   refine o_nil ?_
   refine Bn ?_
   simp only [Int.toNat_natCast]
   generalize hz : List.take ((List.replicate k a ++ List.replicate (n.toNat - k) (0 : Int)).length - k) (List.drop 0 (List.take k (List.replicate k a ++ List.replicate (n.toNat - k) 0))) = zs
   obtain ⟨e2, e3⟩ := rep_copy a (0 : Int) k n.toNat hk1 zs hz.symm
   rw [e2]
   exact at_again (k + zs.length) (And.intro rfl (trivial)) (And.intro rfl (trivial)) (by omega) (by omega) ent
  ·skip
   intro hlt
   refine Ex' (Ax (Ax (Bh (Aw (Sq (Rg ?_))))))
   refine rp 2 rfl ?_
   refine Sn (Aw (Rt ?_))
   rw [hll] at hlt
   have hkn : k = n.toNat := by omega
   subst hkn
   rw [Nat.sub_self, List.replicate_zero, List.append_nil]
   refine at_ret1 rfl (rv_tmp rfl) ⟨_, rfl, ?_⟩
   try dsimp only [ca, na]
   exact ent
theorem repeat_I (s : Value) (a : Int) (n : Int) (h0 : 0 ≤ n) (h1 : n ≤ 2^30) : Spec PP 84 #[s, .int .i64 n] [Sl eI s [a]] (fun v M => M = [Sl eI v (List.replicate n.toNat a)]) := repeat_I' s [a] a rfl rfl n h0 h1
theorem repeat_W (s : Value) (a : Int) (n : Int) (h0 : 0 ≤ n) (h1 : n ≤ 2^30) : Spec PP 92 #[s, .int .i64 n] [Sl eW s [a]] (fun v M => M = [Sl eW v (List.replicate n.toNat a)]) := repeat_W' s [a] a rfl rfl n h0 h1

/-! ## cmp -/
theorem cmp_isNaN (x : Int) : Spec PP 134 #[.int .i64 x] [] (fun v M => v = .bool false ∧ M = []) := by
  refine spec_of (Go.Proofs.Tryz.func134) rfl rfl rfl (by exact fc_enters_134) ?_
  intro g F
  try dsimp only [ca, na]
  refine Sq (Rg ?_)
  refine rp 1 rfl ?_
  refine Sn (Aw (Sq (Rg ?_)))
  refine rp 2 rfl ?_
  refine Wp (po_ne rfl rfl) ?_
  refine rp 1 rfl ?_
  refine Sn (Aw (Rt ?_))
  refine at_ret1 rfl (rv_tmp rfl) ⟨_, ⟨by simp, rfl⟩, ?_⟩
  try dsimp only [ca, na]
  exact ent
def cmpI (x y : Int) : Int := if x < y then -1 else if y < x then 1 else 0
theorem cmp_Compare (x y : Int) : Spec PP 104 #[.int .i64 x, .int .i64 y] [] (fun v M => v = .int .i64 (cmpI x y) ∧ M = []) := by
  refine spec_of (Go.Proofs.Tryz.func104) rfl rfl rfl (by exact fc_enters_104) ?_
  intro g F
  try dsimp only [ca, na]
  refine Sq (Rg ?_)
  refine rp 1 rfl ?_
  refine Sn (Aw (Sq (Rg ?_)))
  refine rp 1 rfl ?_
  refine Wc (co_fn rfl rfl) (cmp_isNaN x) ?_
  rintro v8 _ ⟨rfl, rfl⟩
  try dsimp only [ca, na]
  refine rp 1 rfl ?_
  refine Sn (Aw (Sq (Rg ?_)))
  refine rp 1 rfl ?_
  refine Wc (co_fn rfl rfl) (cmp_isNaN y) ?_
  rintro v10 _ ⟨rfl, rfl⟩
  try dsimp only [ca, na]
  refine rp 1 rfl ?_
  refine Sn (Aw (Sq (Sq (Rg ?_))))
  refine rp 1 rfl ?_
  refine Sn (Aw ?_)
  refine r_cond_f rfl (rfl) ?_
  refine Sk (Aw (Sq (Sq (Rg ?_))))
  refine rp 1 rfl ?_
  refine Sn (Aw ?_)
  refine r_cond_f rfl (rfl) ?_
  refine Sk (Aw (Sq (Sq (Rg ?_))))
  refine rp 2 rfl ?_
  refine Wp (po_lt rfl rfl) ?_
  refine Sn (Aw ?_)
  refine Rc rfl ?_ ?_
  ·skip
   intro h1
   refine Sq (Rg ?_)
   refine rp 1 rfl ?_
   refine Sn (Aw (Rt (Ar ?_)))
   refine at_ret1 rfl (rv_tmp rfl) ⟨_, ⟨by rw [cmpI, if_pos h1], rfl⟩, ?_⟩
   try dsimp only [ca, na]
   exact ent
  ·skip
   intro h1
   refine Sk (Aw (Sq (Sq (Rg ?_))))
   refine rp 2 rfl ?_
   refine Wp (po_gt rfl rfl) ?_
   refine Sn (Aw ?_)
   refine Rc rfl ?_ ?_
   ·skip
    intro h2
    refine Sq (Rg ?_)
    refine rp 1 rfl ?_
    refine Sn (Aw (Rt (Ar ?_)))
    refine at_ret1 rfl (rv_tmp rfl) ⟨_, ⟨by rw [cmpI, if_neg h1, if_pos h2], rfl⟩, ?_⟩
    try dsimp only [ca, na]
    exact ent
   ·skip
    intro h2
    refine Sk (Aw (Sq (Rg ?_)))
    refine rp 1 rfl ?_
    refine Sn (Aw (Rt ?_))
    refine at_ret1 rfl (rv_tmp rfl) ⟨_, ⟨by rw [cmpI, if_neg h1, if_neg h2], rfl⟩, ?_⟩
    try dsimp only [ca, na]
    exact ent
theorem cmp_Less (x y : Int) : Spec PP 160 #[.int .i64 x, .int .i64 y] [] (fun v M => v = .bool (decide (x < y)) ∧ M = []) := by
  refine spec_of (Go.Proofs.Tryz.func160) rfl rfl rfl (by exact fc_enters_160) ?_
  intro g F
  try dsimp only [ca, na]
  refine Sq (Rg ?_)
  refine rp 1 rfl ?_
  refine Sn (Aw (Sq (Rg ?_)))
  refine rp 1 rfl ?_
  refine Wc (co_fn rfl rfl) (cmp_isNaN x) ?_
  rintro v6 _ ⟨rfl, rfl⟩
  try dsimp only [ca, na]
  refine Wp (po_bf (po_move rfl) (rfl)) ?_
  refine rp 7 rfl ?_
  refine Wp (po_lt rfl rfl) ?_
  refine rp 2 rfl ?_
  refine Sn (Aw (Rt ?_))
  refine at_ret1 rfl (rv_tmp rfl) ⟨_, ⟨rfl, rfl⟩, ?_⟩
  try dsimp only [ca, na]
  exact ent
/-- the first that is not nought -/
def orI : List Int → Int
  | [] => 0
  | x :: xs => if x = 0 then orI xs else x
theorem orI_drop : ∀ (xs : List Int) (k : Nat), (∀ j, (h : j < xs.length) → j < k → xs[j] = 0) → orI xs = orI (xs.drop k)
  | [], k, _ => by simp
  | x :: xs, 0, _ => rfl
  | x :: xs, k + 1, h => by
    have h0 : x = 0 := h 0 (by simp) (by omega)
    rw [orI, if_pos h0, List.drop_succ_cons]
    exact orI_drop xs k (fun j hj hk => h (j + 1) (by simpa using hj) (by omega))
theorem cmp_Or (s : Value) (xs : List Int) (hl : xs.length ≤ 2^30) : Spec PP 103 #[s] [Sl eI s xs] (fun v M => v = .int .i64 (orI xs) ∧ M = [Sl eI s xs]) := by
  refine spec_of (Go.Proofs.Tryz.func103) rfl rfl rfl (by exact fc_enters_103) ?_
  intro g F
  try dsimp only [ca, na]
  refine Sq (Rg ?_)
  refine rp 1 rfl ?_
  refine Sn (Aw (Sq (Rg ?_)))
  refine rp 1 rfl ?_
  refine Sn (Aw (Sq (Sq (Rg ?_))))
  refine rp 1 rfl ?_
  refine Wp (po_len rfl (by exact fc_slice_35_3_1)) ?_
  refine rp 1 rfl ?_
  refine Sn (Aw (Bk ?_))
  refine r_loop (S := Nat) (fun k => [(8, .int .i64 k)]) [(3, _), (6, _), (7, _)] (fun k => [Sl eI s xs, F]) (fun k => k ≤ xs.length ∧ ∀ j, (h : j < xs.length) → j < k → xs[j] = 0) (fun k => xs.length - k) (0) (And.intro rfl (And.intro rfl (And.intro rfl (trivial)))) (And.intro rfl (trivial)) (⟨by omega, fun j _ h => by omega⟩) ent ?_
  rintro k ⟨hk, hne⟩
  try dsimp only [ca, na]
  refine Sq (Rg ?_)
  refine Wp (po_lt rfl rfl) ?_
  refine Sn (Aw (Sq ?_))
  refine Rc rfl ?_ ?_
  ·skip
   intro hlt
   refine Sk (Aw (Sq (Bk (Sq (Rg ?_)))))
   refine Wp (po_iaddr rfl rfl (by exact fc_slice_35_3_1) (by first | omega | (simp <;> omega)) (by first | omega | (simp <;> omega))) ?_
   refine Wp (po_load_sl rfl (List.getElem?_eq_getElem (by first | omega | (simp <;> omega))) (by exact fc_flat_3) (by rfl)) ?_
   refine rp 1 rfl ?_
   refine Sn (Aw (Sq (Rg ?_)))
   refine rp 2 rfl ?_
   refine Wp (po_ne rfl rfl) ?_
   refine Sn (Aw ?_)
   refine Rc rfl ?_ ?_
   ·skip
    intro heq
    refine Sq (Rg ?_)
    refine rp 2 rfl ?_
    refine Sn (Aw (Rt (Br (Ar (Ar (Br (Ar ?_)))))))
    refine at_ret1 rfl (rv_tmp rfl) ⟨_, ⟨by rw [orI_drop xs k hne, List.drop_eq_getElem_cons (by omega), orI, if_neg (by simpa using heq)]; simp, rfl⟩, ?_⟩
    try dsimp only [ca, na]
    exact ent
   ·skip
    intro heq
    refine Sk (Bn (Aw (Rg ?_)))
    refine Wp (po_add' rfl rfl (by omega) (by omega)) ?_
    refine rp 1 rfl ?_
    refine Sn ?_
    exact at_again (k + 1) (And.intro rfl (trivial)) (And.intro rfl (And.intro rfl (And.intro rfl (trivial)))) (⟨by omega, fun j hj h => by by_cases e : j = k; (subst e; simpa using heq); exact hne j hj (by omega)⟩) (by omega) ent
  ·skip
   intro hlt
   refine Ex' (Ax (Ax (Bh (Aw (Sq (Rg ?_))))))
   refine rp 2 rfl ?_
   refine Sn (Aw (Rt ?_))
   refine at_ret1 rfl (rv_tmp rfl) ⟨_, ⟨by rw [orI_drop xs k hne, List.drop_eq_nil_of_le (by omega), orI], rfl⟩, ?_⟩
   try dsimp only [ca, na]
   exact ent
end Hd
end
