/- Contracts of functions of the program, and the laws of memory that they are proved with: part 3. -/
import Derived.Below
import Derived.WalkKit
import Derived.ProofKit
import Derived.OpenShut
import Derived.ShutString
import Derived.ChangeOld
import Derived.Carry
import Derived.Lib.SmallJoins
import Derived.Test.YtnaiebnnogkbnaaGreatE2
set_option linter.unusedVariables false
set_option linter.unusedSimpArgs false
section
namespace Hd
/-! ## the search over the border cells -/
/-- how far the cells of y's sector are from y, within it -/
noncomputable def sdN (g : GridS) (y : Int) : Int → Int := Classical.epsilon fun f => IsD g.w g.h g.c (InS g.w g.h g.c (sectorN g.w g.h y)) (fun c k => c = y ∧ k = 0) f
theorem sd_is {g : GridS} {y : Int} {f : Int → Int} (h : IsD g.w g.h g.c (InS g.w g.h g.c (sectorN g.w g.h y)) (fun c k => c = y ∧ k = 0) f) :
    IsD g.w g.h g.c (InS g.w g.h g.c (sectorN g.w g.h y)) (fun c k => c = y ∧ k = 0) (sdN g y) := Classical.epsilon_spec (p := fun f => IsD g.w g.h g.c (InS g.w g.h g.c (sectorN g.w g.h y)) (fun c k => c = y ∧ k = 0) f) ⟨f, h⟩
theorem opn_cost {g : GridS} (ok : GridOk g) {c : Int} (h : Opn g.c c) : 1 ≤ gAt g.c c ∧ gAt g.c c ≤ 255 := by
  have hl : c.toNat < g.c.length := by have := h.1; have := h.2.1; omega
  rw [gAt_get hl]; exact ok.bt _ (List.getElem_mem hl)
theorem sd_eq {g : GridS} (ok : GridOk g) {y : Int} {f : Int → Int} (h : IsD g.w g.h g.c (InS g.w g.h g.c (sectorN g.w g.h y)) (fun c k => c = y ∧ k = 0) f) (c : Int) : sdN g y c = f c :=
  isD_uniq (fun c hc => (opn_cost ok hc.1).1) (sd_is h) h c
theorem mem_nodes {g : GridS} (ok : GridOk g) {s a : Int} (hs : IsS g.w g.h s) : a ∈ nodesN g.w g.h g.c s ↔ Nd g.w g.h g.c a ∧ sectorN g.w g.h a = s := by
  unfold nodesN cellsN cellsTo
  rw [List.mem_filter, List.mem_map]
  have hz := secN_eq g.w g.h s
  unfold secN at hz
  constructor
  · rintro ⟨⟨l, hl, rfl⟩, ho⟩
    rw [List.mem_filter, List.mem_range] at hl
    have hll : (l : Int) < (sizeN g.w g.h s).1 * (sizeN g.w g.h s).2 := by have := hl.1; omega
    have hse := sector_global hs (by omega) hll
    have hc := (global_is hs (by omega) hll).1
    refine ⟨⟨⟨(open_iff ok).1 (of_decide_eq_true ho), hc⟩, ?_⟩, hse⟩
    have he := hl.2
    unfold edgeTo at he
    rw [List.any_eq_true] at he
    obtain ⟨j, hj, h0⟩ := he
    rw [List.mem_range] at hj
    have := over_ge.1 (of_decide_eq_true h0)
    exact ⟨j, by omega, this⟩
  · rintro ⟨⟨⟨ho, hc⟩, k, hk, h1⟩, rfl⟩
    have hl := local_lt hc
    refine ⟨⟨(localN g.w g.h a).toNat, List.mem_filter.2 ⟨List.mem_range.2 (by omega), ?_⟩, ?_⟩, decide_eq_true ((open_iff ok).2 ho)⟩
    · unfold edgeTo
      rw [List.any_eq_true]
      refine ⟨k.toNat, List.mem_range.2 (by omega), decide_eq_true ?_⟩
      rw [Int.toNat_of_nonneg hl.1, global_local hc, Int.toNat_of_nonneg hk.1]
      exact over_ge.2 h1
    · rw [Int.toNat_of_nonneg hl.1, global_local hc]
/-- an edge from a to b -/
def EdR (g : GridS) (b a c : Int) : Prop := Nd g.w g.h g.c a ∧ ((sectorN g.w g.h a = sectorN g.w g.h b ∧ a ≠ b ∧ sdN g b a < INF ∧ c = sdN g b a) ∨ (sectorN g.w g.h a ≠ sectorN g.w g.h b ∧ Adj g.w g.h b a ∧ c = gAt g.c b))
def undone (dn : List Int) (n : Nat) : Nat := (List.range n).countP fun (i : Nat) => decide ((i : Int) ∉ dn)
theorem undone_cons {dn : List Int} {c : Int} {n : Nat} (hn : c ∉ dn) (h0 : 0 ≤ c) (h1 : c < n) : undone (c :: dn) n + 1 = undone dn n := by
  unfold undone
  refine countP_one _ _ c.toNat ?_ ?_ ?_ n (by omega)
  · rw [Int.toNat_of_nonneg h0]; exact decide_eq_true hn
  · rw [Int.toNat_of_nonneg h0]; exact decide_eq_false (fun h => h (List.mem_cons_self ..))
  · intro x hx
    rw [decide_eq_decide, List.mem_cons, not_or]
    exact ⟨fun h => h.2, fun h => ⟨by omega, h⟩⟩
structure Sch (g : GridS) (t : Int) (R : List Int) (hp : List Ent) (dn : List Int) (top cur : Int) (todoI : List Int) (todo : List Edg) : Prop where
  rl : R.length = g.c.length
  rr : ∀ x ∈ R, 0 ≤ x ∧ x ≤ FAR
  hw : ∀ e, e ∈ hp → Nd g.w g.h g.c e.item ∧ top ≤ e.key ∧ gAt R e.item ≤ e.key ∧ e.key < FAR
  hn : hp.Nodup
  old : ∀ e, e ∈ hp → e.item ∈ dn → gAt R e.item < e.key
  cov : ∀ a, Nd g.w g.h g.c a → gAt R a < FAR → a ∈ dn ∨ ⟨gAt R a, a⟩ ∈ hp
  dnk : ∀ b, b ∈ dn → Nd g.w g.h g.c b ∧ gAt R b < FAR ∧ gAt R b ≤ top
  ini : Opn g.c t → ∀ a, Nd g.w g.h g.c a → sectorN g.w g.h a = sectorN g.w g.h t → sdN g t a < INF → gAt R a ≤ sdN g t a ∨ a ∈ todoI
  edg : ∀ b, b ∈ dn → ∀ a c, EdR g b a c → gAt R a ≤ gAt R b + c ∨ (b = cur ∧ ⟨a, c⟩ ∈ todo)
  tight : ∀ a, gAt R a < FAR → 0 ≤ a → a < R.length → Nd g.w g.h g.c a ∧ ((Opn g.c t ∧ sectorN g.w g.h a = sectorN g.w g.h t ∧ sdN g t a < INF ∧ gAt R a = sdN g t a) ∨ ∃ b c, b ∈ dn ∧ EdR g b a c ∧ gAt R a = gAt R b + c)
  cnt : dn.length + undone dn g.c.length = g.c.length
  hl : hp.length + todoI.length + todo.length ≤ 300 * (dn.length + 1)
section
variable {g : GridS} {t : Int} {R : List Int} {hp : List Ent} {dn : List Int} {top cur : Int} {todoI : List Int} {todo : List Edg}
theorem Sch.relax {hp' : List Ent} {a k : Int} (ok : GridOk g) (s : Sch g t R hp dn top cur todoI todo) (ha : Nd g.w g.h g.c a) (hk : k < gAt R a) (hk0 : 0 ≤ k) (htop : top ≤ k) (hpm : hp'.Perm (⟨k, a⟩ :: hp)) {todoI' : List Int} {todo' : List Edg} (hr : todoI'.length + todo'.length + hp'.length ≤ 300 * (dn.length + 1))
    (hI : ∀ j, j ∈ todoI → j ∈ todoI' ∨ (j = a ∧ k ≤ sdN g t a)) (hE : ∀ y, y ∈ todo → y ∈ todo' ∨ (y.to = a ∧ k ≤ gAt R cur + y.cost))
    (why : (Opn g.c t ∧ sectorN g.w g.h a = sectorN g.w g.h t ∧ sdN g t a < INF ∧ k = sdN g t a) ∨ ∃ b c, b ∈ dn ∧ EdR g b a c ∧ k = gAt R b + c) : Sch g t (R.set a.toNat k) hp' dn top cur todoI' todo' := by
  have hm : ∀ x, x ∈ hp' ↔ x = ⟨k, a⟩ ∨ x ∈ hp := fun x => by rw [hpm.mem_iff, List.mem_cons]
  have hal : 0 ≤ a ∧ a < R.length := ⟨ha.1.1.1, by have := ha.1.1.2.1; rw [s.rl]; exact this⟩
  have hg : ∀ j, 0 ≤ j → gAt (R.set a.toNat k) j = if j = a then k else gAt R j := fun j hj => gAt_set hal.1 hal.2 hj
  have hra : gAt R a ≤ FAR := by rw [gAt_get (by omega)]; exact (s.rr _ (List.getElem_mem _)).2
  have hle : ∀ j, 0 ≤ j → gAt (R.set a.toNat k) j ≤ gAt R j := fun j hj => by rw [hg j hj]; split <;> (try subst_vars) <;> omega
  have hnd : ∀ b, b ∈ dn → gAt (R.set a.toNat k) b = gAt R b := fun b hb => by
    have := s.dnk b hb
    rw [hg b this.1.1.1.1, if_neg]
    intro e; subst e; omega
  refine ⟨by simp [s.rl], fun x hx => ?_, fun e he => ?_, ?_, fun e he hd => ?_, fun j hj hjf => ?_, fun b hb => ?_, fun ho j hj1 hj2 hj3 => ?_, fun b hb j c hj => ?_, fun j hj h0 h1 => ?_, s.cnt, by omega⟩
  · rcases List.mem_or_eq_of_mem_set hx with e | e
    · exact s.rr x e
    · subst e; omega
  · rcases (hm e).1 he with e1 | e1
    · subst e1
      refine ⟨ha, htop, ?_, by dsimp only; omega⟩
      rw [hg _ hal.1, if_pos rfl]; exact Int.le_refl _
    · have := s.hw e e1
      have h2 := hle e.item this.1.1.1.1
      exact ⟨this.1, this.2.1, by omega, this.2.2.2⟩
  · rw [hpm.nodup_iff, List.nodup_cons]
    refine ⟨fun hin => ?_, s.hn⟩
    have := (s.hw _ hin).2.2.1
    dsimp only at this; omega
  · rw [hnd _ hd]
    rcases (hm e).1 he with e1 | e1
    · subst e1
      have := s.dnk _ hd
      dsimp only at this; omega
    · exact s.old e e1 hd
  · by_cases e : j = a
    · subst e; right; rw [hg _ hal.1, if_pos rfl]; exact (hm _).2 (.inl rfl)
    · have hgj := hg j hj.1.1.1
      rw [if_neg e] at hgj
      rw [hgj] at hjf ⊢
      rcases s.cov j hj hjf with h | h
      · exact .inl h
      · exact .inr ((hm _).2 (.inr h))
  · rw [hnd b hb]; exact s.dnk b hb
  · rcases s.ini ho j hj1 hj2 hj3 with h | h
    · have := hle j hj1.1.1.1; left; omega
    · rcases hI j h with h2 | ⟨rfl, h2⟩
      · exact .inr h2
      · left; rw [hg _ hal.1, if_pos rfl]; exact h2
  · rw [hnd b hb]
    rcases s.edg b hb j c hj with h | h
    · have := hle j hj.1.1.1.1; left; omega
    · rcases hE _ h.2 with h2 | ⟨h2, h3⟩
      · exact .inr ⟨h.1, h2⟩
      · left
        dsimp only at h2 h3
        rw [h2, hg _ hal.1, if_pos rfl, h.1]; exact h3
  · by_cases e : j = a
    · subst e
      rw [hg _ hal.1, if_pos rfl]
      refine ⟨ha, ?_⟩
      rcases why with h | ⟨b, c, hb, h2, h3⟩
      · exact .inl h
      · exact .inr ⟨b, c, hb, h2, by rw [hnd b hb]; exact h3⟩
    · have hgj := hg j h0
      rw [if_neg e] at hgj
      rw [hgj] at hj ⊢
      obtain ⟨h2, h3⟩ := s.tight j hj h0 (by simpa using h1)
      refine ⟨h2, ?_⟩
      rcases h3 with h | ⟨b, c, hb, h4, h5⟩
      · exact .inl h
      · exact .inr ⟨b, c, hb, h4, by rw [hnd b hb]; exact h5⟩
theorem Sch.dropI {a : Int} (s : Sch g t R hp dn top cur (a :: todoI) todo) (h : Opn g.c t → sdN g t a < INF → gAt R a ≤ sdN g t a) : Sch g t R hp dn top cur todoI todo :=
  ⟨s.rl, s.rr, s.hw, s.hn, s.old, s.cov, s.dnk, fun ho j h1 h2 h3 => (s.ini ho j h1 h2 h3).elim .inl (fun h4 => (List.mem_cons.1 h4).elim (fun e => .inl (by subst e; exact h ho h3)) .inr), s.edg, s.tight, s.cnt, by have := s.hl; simp only [List.length_cons] at this; omega⟩
theorem Sch.dropE {x : Edg} (s : Sch g t R hp dn top cur todoI (x :: todo)) (h : gAt R x.to ≤ gAt R cur + x.cost) : Sch g t R hp dn top cur todoI todo :=
  ⟨s.rl, s.rr, s.hw, s.hn, s.old, s.cov, s.dnk, s.ini, fun b hb a c hc => (s.edg b hb a c hc).elim .inl (fun ⟨h4, h5⟩ => (List.mem_cons.1 h5).elim (fun e => .inl (by subst h4; rw [← e] at h; exact h)) (fun e => .inr ⟨h4, e⟩)), s.tight, s.cnt, by have := s.hl; simp only [List.length_cons] at this; omega⟩
theorem Sch.popOld {e : Ent} {hp' : List Ent} (s : Sch g t R hp dn top cur [] []) (hpm : hp.Perm (e :: hp')) (hk : gAt R e.item < e.key) : Sch g t R hp' dn top cur [] [] := by
  have hm : ∀ x, x ∈ hp ↔ x = e ∨ x ∈ hp' := fun x => by rw [hpm.mem_iff, List.mem_cons]
  refine ⟨s.rl, s.rr, fun x hx => s.hw x ((hm x).2 (.inr hx)), (List.nodup_cons.1 (hpm.nodup_iff.1 s.hn)).2, fun x hx => s.old x ((hm x).2 (.inr hx)), fun a h1 h2 => ?_, s.dnk, s.ini, s.edg, s.tight, s.cnt, ?_⟩
  · rcases s.cov a h1 h2 with h | h
    · exact .inl h
    · rcases (hm _).1 h with e1 | e1
      · subst e1; dsimp only at hk; omega
      · exact .inr e1
  · have := s.hl
    have := hpm.length_eq
    simp only [List.length_cons, List.length_nil] at *; omega
theorem Sch.popNew {e : Ent} {hp' : List Ent} {es : List Edg} (s : Sch g t R hp dn top cur [] []) (hpm : hp.Perm (e :: hp')) (hmin : ∀ x, x ∈ hp → e.key ≤ x.key) (hk : ¬ gAt R e.item < e.key) (hes : es.length ≤ 300) (he : ∀ a c, EdR g e.item a c → ⟨a, c⟩ ∈ es) :
    Sch g t R hp' (e.item :: dn) e.key e.item [] es ∧ gAt R e.item = e.key ∧ undone (e.item :: dn) g.c.length + 1 = undone dn g.c.length := by
  have hm : ∀ x, x ∈ hp ↔ x = e ∨ x ∈ hp' := fun x => by rw [hpm.mem_iff, List.mem_cons]
  have h0 := s.hw e ((hm e).2 (.inl rfl))
  have hek : gAt R e.item = e.key := by omega
  have hnd : e.item ∉ dn := fun h => hk (s.old e ((hm e).2 (.inl rfl)) h)
  have hnod := List.nodup_cons.1 (hpm.nodup_iff.1 s.hn)
  have hu := undone_cons hnd h0.1.1.1.1 h0.1.1.1.2.1
  refine ⟨⟨s.rl, s.rr, fun x hx => ?_, hnod.2, fun x hx hd => ?_, fun a h1 h2 => ?_, fun b hb => ?_, s.ini, fun b hb a c hc => ?_, fun a h1 h2 h3 => ?_, by have := s.cnt; simp only [List.length_cons]; omega, ?_⟩, hek, hu⟩
  · have := s.hw x ((hm x).2 (.inr hx))
    exact ⟨this.1, hmin x ((hm x).2 (.inr hx)), this.2.2⟩
  · have hx1 := s.hw x ((hm x).2 (.inr hx))
    rcases List.mem_cons.1 hd with e1 | e1
    · rw [e1, hek]
      have := hmin x ((hm x).2 (.inr hx))
      rcases Int.lt_or_eq_of_le this with h | h
      · exact h
      · have : x = e := by cases x; cases e; simp_all
        rw [this] at hx; exact absurd hx hnod.1
    · exact s.old x ((hm x).2 (.inr hx)) e1
  · rcases s.cov a h1 h2 with h | h
    · exact .inl (List.mem_cons_of_mem _ h)
    · rcases (hm _).1 h with e1 | e1
      · left; rw [← e1]; exact List.mem_cons_self ..
      · exact .inr e1
  · rcases List.mem_cons.1 hb with e1 | e1
    · rw [e1]; exact ⟨h0.1, by omega, by omega⟩
    · have := s.dnk b e1
      exact ⟨this.1, this.2.1, by omega⟩
  · rcases List.mem_cons.1 hb with e1 | e1
    · rw [e1] at hc; exact .inr ⟨e1, he a c hc⟩
    · rcases s.edg b e1 a c hc with h | ⟨_, h⟩
      · exact .inl h
      · cases h
  · obtain ⟨h4, h5⟩ := s.tight a h1 h2 h3
    refine ⟨h4, ?_⟩
    rcases h5 with h | ⟨b, c, hb, h6, h7⟩
    · exact .inl h
    · exact .inr ⟨b, c, List.mem_cons_of_mem _ hb, h6, h7⟩
  · have := s.hl
    have := hpm.length_eq
    simp only [List.length_cons, List.length_nil] at *; omega
theorem Sch.start (t : Int) (todoI : List Int) (hl : todoI.length ≤ 256) (h : ∀ a, Nd g.w g.h g.c a → sectorN g.w g.h a = sectorN g.w g.h t → a ∈ todoI) : Sch g t (List.replicate g.c.length FAR) [] [] 0 0 todoI [] := by
  have hF : FAR = 2147483647 := rfl
  refine ⟨by simp, fun x hx => ?_, fun e he => (by cases he), .nil, fun e he => (by cases he), fun a ha hf => ?_, fun b hb => (by cases hb), fun _ a h1 h2 _ => .inr (h a h1 h2), fun b hb => (by cases hb), fun a hf h0 h1 => ?_, ?_, ?_⟩
  · rw [List.eq_of_mem_replicate hx]; omega
  · rw [gAt_get (by simp; have := ha.1.1.1; have := ha.1.1.2.1; omega)] at hf
    simp at hf
  · rw [gAt_get (by simp at h1 ⊢; omega)] at hf
    simp at hf
  · simp [undone]
  · simp; omega
theorem Sch.done (s : Sch g t R [] dn top cur [] []) : Bd g.w g.h g.c t (Nd g.w g.h g.c) (sdN g) (fun a => if 0 ≤ a ∧ a < R.length then gAt R a else FAR) := by
  have hF : FAR = 2147483647 := rfl
  have hin : ∀ a, Nd g.w g.h g.c a → (if 0 ≤ a ∧ a < R.length then gAt R a else FAR) = gAt R a := fun a ha => if_pos ⟨ha.1.1.1, by rw [s.rl]; exact ha.1.1.2.1⟩
  have hdn : ∀ a, Nd g.w g.h g.c a → gAt R a < FAR → a ∈ dn := fun a h1 h2 => (s.cov a h1 h2).elim id (fun h => by cases h)
  refine ⟨fun a => ?_, fun ho a h1 h2 h3 => ?_, fun b a h1 h2 h3 h4 h5 h6 => ?_, fun b a h1 h2 h3 h4 h5 => ?_, fun a => ?_⟩
  · split
    · rw [gAt_get (by omega)]; exact s.rr _ (List.getElem_mem _)
    · omega
  · rw [hin a h1]
    exact (s.ini ho a h1 h2 h3).elim id (fun h => by cases h)
  · rw [hin b h1] at h3 ⊢
    rw [hin a h2]
    exact (s.edg b (hdn b h1 h3) a _ ⟨h2, .inl ⟨h4, h5, h6, rfl⟩⟩).elim id (fun h => by cases h.2)
  · rw [hin b h1] at h3 ⊢
    rw [hin a h2]
    exact (s.edg b (hdn b h1 h3) a _ ⟨h2, .inr ⟨h4, h5, rfl⟩⟩).elim id (fun h => by cases h.2)
  · by_cases hr : 0 ≤ a ∧ a < R.length
    · rw [if_pos hr]
      by_cases hf : gAt R a < FAR
      · obtain ⟨h1, h2⟩ := s.tight a hf hr.1 hr.2
        refine .inr ⟨h1, ?_⟩
        rcases h2 with h | ⟨b, c, hb, ⟨_, h3⟩, h4⟩
        · exact .inl h
        · have hbn := s.dnk b hb
          refine .inr ⟨b, hbn.1, by rw [hin b hbn.1]; exact hbn.2.1, ?_⟩
          rw [hin b hbn.1]
          rcases h3 with ⟨h5, h6, h7, h8⟩ | ⟨h5, h6, h8⟩
          · exact .inl ⟨h5, h6, h7, by rw [← h8]; exact h4⟩
          · exact .inr ⟨h5, h6, by rw [← h8]; exact h4⟩
      · left
        rw [gAt_get (by omega)] at hf ⊢
        have := (s.rr _ (List.getElem_mem (show a.toNat < R.length by omega))).2
        omega
    · rw [if_neg hr]; exact .inl rfl
end
end Hd
end
section
namespace Hd
set_option maxRecDepth 100000
open Go

theorem one_src {g : GridS} {b c k : Int} (hb : InS g.w g.h g.c (sectorN g.w g.h b) b) : (InS g.w g.h g.c (sectorN g.w g.h b) c ∧ srcS (oneS (localN g.w g.h b)) (localN g.w g.h c) k) ↔ c = b ∧ k = 0 := by
  unfold srcS
  constructor
  · rintro ⟨hc, s, hs, h1, h2⟩
    rw [List.mem_singleton] at hs
    subst hs
    dsimp only at h1 h2
    have e1 := global_local hc.2.1
    have e2 := global_local hb.2.1
    rw [hc.2.2, ← h1, e2] at e1
    exact ⟨e1.symm, h2.symm⟩
  · rintro ⟨rfl, rfl⟩
    exact ⟨hb, _, List.mem_singleton.2 rfl, rfl, rfl⟩
theorem IsD.congr {w h : Int} {C : List Int} {In : Int → Prop} {src src' : Int → Int → Prop} {d : Int → Int} (k : IsD w h C In src d) (e : ∀ c x, src c x ↔ src' c x) : IsD w h C In src' d :=
  ⟨k.out, k.rng, fun c x s => k.low c x ((e c x).2 s), k.rel, fun c => by
    rcases k.tight c with a | a | a
    · exact .inl a
    · exact .inr (.inl ((e c _).1 a))
    · exact .inr (.inr a)⟩
theorem col_sd {g : GridS} (ok : GridOk g) {b : Int} (ho : Opn g.c b) {d : List Int} (hd : IsDist (tileN g (sectorN g.w g.h b)).w (tileN g (sectorN g.w g.h b)).h (tileN g (sectorN g.w g.h b)).c (srcS (oneS (localN g.w g.h b))) (dF d)) :
    IsD g.w g.h g.c (InS g.w g.h g.c (sectorN g.w g.h b)) (fun c k => c = b ∧ k = 0) (onMap g.w g.h g.c (sectorN g.w g.h b) (dF d)) := by
  have hc := opn_isC ok ho
  exact (tile_map ok (sector_lt hc).1 hd).congr fun c x => one_src ⟨ho, hc, rfl⟩
theorem onMap_g {g : GridS} (ok : GridOk g) {i a : Int} (hi : IsS g.w g.h i) (ha : InS g.w g.h g.c i a) {d : List Int} (hl : d.length = (tileN g i).c.length) : onMap g.w g.h g.c i (dF d) a = gAt d (localN g.w g.h a) := by
  have hlo := local_opn ok ha
  unfold onMap dF
  rw [if_pos ha, if_pos ⟨hlo.1, by rw [hl]; exact hlo.2.1⟩]
theorem mesh_sd {m : MeshS} (ok : MeshFr m) {y : Int} (hy : Nd m.g.w m.g.h m.g.c y) : IsD m.g.w m.g.h m.g.c (InS m.g.w m.g.h m.g.c (sectorN m.g.w m.g.h y)) (fun c k => c = y ∧ k = 0) (sdN m.g y) := by
  have hs := (sector_lt hy.1.2).1
  have hl := ok.iss.1 hs
  have hp := ok.part (sectorN m.g.w m.g.h y).toNat _ (List.getElem?_eq_getElem (by omega))
  rw [Int.toNat_of_nonneg hl.1] at hp
  have hm := (mem_nodes ok.g hs).2 ⟨hy, rfl⟩
  obtain ⟨j, hj, hje⟩ := List.getElem_of_mem hm
  obtain ⟨d, hdl, hd, -⟩ := hp.col j y (by rw [hp.nodes, List.getElem?_eq_getElem hj, hje])
  exact sd_is (col_sd ok.g hy.1.1 hd)
/-- what Into tells are the edges -/
theorem into_ed {m : MeshS} (ok : MeshFr m) {b : Int} (hb : Nd m.g.w m.g.h m.g.c b) {d : List Int} {es : List Edg} (hdl : d.length = (tileN m.g (sectorN m.g.w m.g.h b)).c.length)
    (hd : IsDist (tileN m.g (sectorN m.g.w m.g.h b)).w (tileN m.g (sectorN m.g.w m.g.h b)).h (tileN m.g (sectorN m.g.w m.g.h b)).c (srcS (oneS (localN m.g.w m.g.h b))) (dF d))
    (hes : ∀ e, e ∈ es ↔ InE m.g b d (nodesN m.g.w m.g.h m.g.c (sectorN m.g.w m.g.h b)).length e ∨ OverE m.g b 4 e) (a c : Int) : ⟨a, c⟩ ∈ es ↔ EdR m.g b a c := by
  have hs := (sector_lt hb.1.2).1
  have hdc := col_sd ok.g hb.1.1 hd
  have hse := sd_eq ok.g hdc
  rw [hes]
  have hval : ∀ a, InS m.g.w m.g.h m.g.c (sectorN m.g.w m.g.h b) a → sdN m.g b a = gAt d (localN m.g.w m.g.h a) := fun a ha => by rw [hse, onMap_g ok.g hs ha hdl]
  have hI : INF = 1099511627776 := rfl
  constructor
  · rintro (⟨i, hi, h1, h2, h3, h4⟩ | ⟨s, hs4, h1, h2, h3, h4, h5⟩)
    · have hm := List.mem_of_getElem? h1
      obtain ⟨hn, hse2⟩ := (mem_nodes ok.g hs).1 hm
      have hv := hval a ⟨hn.1.1, hn.1.2, hse2⟩
      have hr := hdc.rng a
      rw [← hse] at hr
      dsimp only at h2 h3 h4
      exact ⟨hn, .inl ⟨hse2, h2, by omega, by omega⟩⟩
    · obtain ⟨hn, -⟩ := (mem_nodes ok.g (sector_lt h2).1).1 h4
      refine ⟨hn, .inr ⟨h3, ⟨s, by omega, h1⟩, ?_⟩⟩
      dsimp only at h5
      rw [h5, cost_opn ok.g hb.1.2]
  · rintro ⟨hn, ⟨h1, h2, h3, h4⟩ | ⟨h1, ⟨s, hs4, h2⟩, h3⟩⟩
    · left
      have hv := hval a ⟨hn.1.1, hn.1.2, h1⟩
      obtain ⟨i, hi, he⟩ := List.getElem_of_mem ((mem_nodes ok.g hs).2 ⟨hn, h1⟩)
      exact ⟨i, hi, by rw [List.getElem?_eq_getElem hi, he], h2, by dsimp only; omega, by dsimp only; omega⟩
    · right
      refine ⟨s.toNat, by omega, by rw [Int.toNat_of_nonneg hs4.1]; exact h2, hn.1.2, h1, (mem_nodes ok.g (sector_lt hn.1.2).1).2 ⟨hn, rfl⟩, ?_⟩
      dsimp only
      rw [h3, cost_opn ok.g hb.1.2]

def muS (dn : List Int) (n : Nat) (o : Bool) (l : List Ent) : Nat := 301 * undone dn n + l.length + (if o = true then 1 else 0)
theorem muS_t (dn : List Int) (n : Nat) {o : Bool} (l : List Ent) (h : o = true) : muS dn n o l = 301 * undone dn n + l.length + 1 := by unfold muS; rw [if_pos h]
theorem muS_f (dn : List Int) (n : Nat) {o : Bool} (l : List Ent) (h : o = false) : muS dn n o l = 301 * undone dn n + l.length := by subst h; rfl
structure NxS (g : GridS) (t : Int) (R : List Int) (o : Bool) (e : Ent) (l : List Ent) (dn : List Int) (top cur : Int) : Prop where
  hp : HpL l
  rl : R.length = g.c.length
  rr : ∀ x ∈ R, 0 ≤ x ∧ x ≤ FAR
  hl : l.length ≤ 300 * (dn.length + 1)
  dl : dn.length ≤ g.c.length
  ok : o = true → ∃ hp, Sch g t R hp dn top cur [] [] ∧ hp.Perm (e :: l) ∧ ∀ x, x ∈ hp → e.key ≤ x.key
  no : o = false → l = [] ∧ Sch g t R [] dn top cur [] []
theorem NxS.mk_t {g : GridS} {t : Int} {R : List Int} {e : Ent} {l hp : List Ent} {dn : List Int} {top cur : Int} (s : Sch g t R hp dn top cur [] []) (hpm : hp.Perm (e :: l)) (hm : ∀ x ∈ hp, leE e x) (hl : HpL l) : NxS g t R true e l dn top cur :=
  ⟨hl, s.rl, s.rr, by have := s.hl; have := hpm.length_eq; simp only [List.length_cons, List.length_nil] at *; omega, by have := s.cnt; omega, fun _ => ⟨hp, s, hpm, fun x hx => leE_key (hm x hx)⟩, fun h => by cases h⟩
theorem NxS.mk_f {g : GridS} {t : Int} {R : List Int} {e : Ent} {dn : List Int} {top cur : Int} (s : Sch g t R [] dn top cur [] []) (hl : HpL []) : NxS g t R false e [] dn top cur :=
  ⟨hl, s.rl, s.rr, by simp, by have := s.cnt; omega, fun h => (by cases h), fun _ => ⟨rfl, s⟩⟩
theorem route_search (f : FinderS) (kept : Value) (ok : MeshFr f.m) (t : Int) (ht : IsC f.m.g.w f.m.g.h t) : Spec PP 63 #[f.p, .int .i64 t] (f.l kept)
    (fun v M => ∃ r : RouteS, v = r.p ∧ M = f.l kept ++ r.l ∧ r.goal = t ∧ r.ep = f.m.g.ep ∧ r.dist.length = f.m.g.c.length ∧ (∀ x ∈ r.dist, 0 ≤ x ∧ x ≤ FAR) ∧ (Opn f.m.g.c t → IsD f.m.g.w f.m.g.h f.m.g.c (InS f.m.g.w f.m.g.h f.m.g.c (sectorN f.m.g.w f.m.g.h t)) (fun c k => c = t ∧ k = 0) (sdN f.m.g t)) ∧
      Bd f.m.g.w f.m.g.h f.m.g.c t (Nd f.m.g.w f.m.g.h f.m.g.c) (sdN f.m.g) (fun a => if 0 ≤ a ∧ a < r.dist.length then gAt r.dist a else FAR)) := by
  have hcl := ok.g.len
  have hb := may_mul ok.g.may
  have hF : FAR = 2147483647 := rfl
  have hts := (sector_lt ht).1
  have hnl := nodes_len f.m.g.w f.m.g.h f.m.g.c (sectorN f.m.g.w f.m.g.h t)
  have hI : INF = 1099511627776 := rfl
  refine spec_of (Go.Proofs.Tryz.func63) rfl rfl rfl (by exact fc_enters_63) ?_
  intro g F
  try dsimp only [ca, na, GridS.l, GridS.p, MeshS.l, MeshS.lF, MeshS.p, FinderS.l, FinderS.p, heapL, heapP, heapLF, FinderS.lF, RouteS.l, RouteS.p]
  refine Sq (Rg ?_)
  refine rp 1 rfl ?_
  refine Sn (Aw (Sq (Rg ?_)))
  refine rp 2 rfl ?_
  refine Wp (po_faddr rfl (by exact fc_field_98_1_1)) ?_
  refine Wp (po_load rfl (by exact fc_flat_27) (by rfl)) ?_
  refine Wc (co_fn rfl rfl) (grid_Size f.m.g) ?_
  rintro v24 _ ⟨rfl, rfl⟩
  try dsimp only [ca, na, GridS.l, GridS.p, MeshS.l, MeshS.lF, MeshS.p, FinderS.l, FinderS.p, heapL, heapP, heapLF, FinderS.lF, RouteS.l, RouteS.p]
  refine rp 5 rfl ?_
  refine Sn (Aw (Sq (Rg ?_)))
  refine rp 3 rfl ?_
  refine Wp (po_faddr rfl (by exact fc_field_98_1_1)) ?_
  refine Wp (po_load rfl (by exact fc_flat_27) (by rfl)) ?_
  refine Wc (co_fn rfl rfl) (grid_Epoch f.m.g) ?_
  rintro v32 _ ⟨rfl, rfl⟩
  try dsimp only [ca, na, GridS.l, GridS.p, MeshS.l, MeshS.lF, MeshS.p, FinderS.l, FinderS.p, heapL, heapP, heapLF, FinderS.lF, RouteS.l, RouteS.p]
  refine Wx (xo_bslice eW [_] rfl (by exact fc_slice_82_21_1) (by exact fc_elem_21_1_4) ⟨rfl, rfl, trivial⟩ rfl (by decide)) ?_
  rintro v33 _ rfl
  refine rp 2 rfl ?_
  refine Wp (po_mul' rfl rfl (by omega) (by omega)) ?_
  refine Wc (co_fn rfl rfl) (repeat_W v33 2147483647 (f.m.g.w * f.m.g.h) (by omega) (by omega)) ?_
  rintro v37 _ rfl
  try dsimp only [ca, na, GridS.l, GridS.p, MeshS.l, MeshS.lF, MeshS.p, FinderS.l, FinderS.p, heapL, heapP, heapLF, FinderS.lF, RouteS.l, RouteS.p]
  refine Wp (po_build1 rfl (by exact fc_zero_84) (by exact fc_places_84_0_1_2) (by exact fc_info_84) rfl) ?_
  refine Wx (xo_box rfl rfl) ?_
  rintro _ _ ⟨b39, rfl, rfl⟩
  refine rp 1 rfl ?_
  refine Sn (Aw (Sq (Rg ?_)))
  refine Wc (co_fn rfl rfl) (heap_New) ?_
  rintro v40 _ ⟨hb0, rfl, rfl⟩
  try dsimp only [ca, na, GridS.l, GridS.p, MeshS.l, MeshS.lF, MeshS.p, FinderS.l, FinderS.p, heapL, heapP, heapLF, FinderS.lF, RouteS.l, RouteS.p]
  refine rp 1 rfl ?_
  refine Sn (Aw (Sq (Rg ?_)))
  refine rp 2 rfl ?_
  refine Wc (co_fn rfl rfl) (route_within f kept ok.g t ht) ?_
  rintro v43 _ ⟨r, kv, rfl, rfl, hk0, hk1, hk2⟩
  try dsimp only [ca, na, GridS.l, GridS.p, MeshS.l, MeshS.lF, MeshS.p, FinderS.l, FinderS.p, heapL, heapP, heapLF, FinderS.lF, RouteS.l, RouteS.p]
  have hsd : Opn f.m.g.c t → IsD f.m.g.w f.m.g.h f.m.g.c (InS f.m.g.w f.m.g.h f.m.g.c (sectorN f.m.g.w f.m.g.h t)) (fun c k => c = t ∧ k = 0) (sdN f.m.g t) := fun h => sd_is (hk1 h)
  rw [show (f.m.g.w * f.m.g.h).toNat = f.m.g.c.length by omega]
  refine rp 1 rfl ?_
  refine Sn (Aw (Sq (Sq ?_)))
  refine r_ord [] _ [(0, 1), (1, 1), (2, 1), (3, 0), (4, 1), (5, 1), (6, 1), (10, 1), (7, 2), (8, 2), (9, 2)] fc_mixed (by kernel_rfl) (fun _ h => h) ?_
  refine Of rfl (po_move rfl) ?_
  refine Of rfl (po_nil rfl) ?_
  refine Of rfl (po_faddr rfl (by exact fc_field_98_0_0)) ?_
  refine Or rfl (po_load rfl (by exact fc_flat_63) (by rfl)) ?_
  refine Of rfl (po_move rfl) ?_
  refine Of rfl (po_move rfl) ?_
  refine Of rfl (po_move rfl) ?_
  refine Of rfl (po_move rfl) ?_
  refine o_st rfl (st_call (co_fn rfl rfl) (where_Sector f.m.g.w f.m.g.h t) (by infer_instance) rfl rfl rfl ?_)
  rintro v51 _ ⟨rfl, rfl⟩
  try dsimp only [ca, na, GridS.l, GridS.p, MeshS.l, MeshS.lF, MeshS.p, FinderS.l, FinderS.p, heapL, heapP, heapLF, FinderS.lF, RouteS.l, RouteS.p]
  refine ⟨fun _ => (by first | exact fun _ h => h | exact ent), ?_⟩
  refine o_st rfl (st_call (co_fn rfl rfl) (mesh_Nodes f.m ok (sectorN f.m.g.w f.m.g.h t) hts) (by infer_instance) rfl rfl rfl ?_)
  rintro v52 _ rfl
  try dsimp only [ca, na, GridS.l, GridS.p, MeshS.l, MeshS.lF, MeshS.p, FinderS.l, FinderS.p, heapL, heapP, heapLF, FinderS.lF, RouteS.l, RouteS.p]
  refine ⟨fun _ => (by first | exact fun _ h => h | exact ent), ?_⟩
  refine o_st rfl (st_po (po_len rfl (by exact fc_slice_35_3_1)) rfl rfl rfl ?_)
  refine ⟨fun _ => (by first | exact fun _ h => h | exact ent), ?_⟩
  refine o_nil ?_
  refine Aw (Bk ?_)
  refine r_loop (S := Nat × Value × List Ent × List Int) (fun ⟨k, v, l, R⟩ => [(54, .int .i64 k)]) [(0, _), (7, _), (8, _), (9, _), (52, _), (53, _)] (fun ⟨k, v, l, R⟩ => Blk hb0 157 [v] :: Sl eH v l :: MpH r kv :: Sl eI v52 (nodesN f.m.g.w f.m.g.h f.m.g.c (sectorN f.m.g.w f.m.g.h t)) :: Blk b39 84 [.int .i64 t, .int .i64 f.m.g.ep, v37] :: Sl eW v37 R :: f.lF kept F) (fun ⟨k, v, l, R⟩ => k ≤ (nodesN f.m.g.w f.m.g.h f.m.g.c (sectorN f.m.g.w f.m.g.h t)).length ∧ HpL l ∧ Sch f.m.g t R l [] 0 0 ((nodesN f.m.g.w f.m.g.h f.m.g.c (sectorN f.m.g.w f.m.g.h t)).drop k) []) (fun ⟨k, v, l, R⟩ => (nodesN f.m.g.w f.m.g.h f.m.g.c (sectorN f.m.g.w f.m.g.h t)).length - k) ((0, .slice none 0 0, [], List.replicate f.m.g.c.length FAR)) (And.intro rfl (And.intro rfl (And.intro rfl (And.intro rfl (And.intro rfl (And.intro rfl (trivial))))))) (And.intro rfl (trivial)) (⟨by omega, fun j _ h => by simp at h, Sch.start t _ hnl (fun a h1 h2 => (mem_nodes ok.g hts).2 ⟨h1, h2⟩)⟩) ent ?_
  rintro ⟨k, v, l, R⟩ ⟨hk, hph, hs⟩
  try dsimp only [ca, na, GridS.l, GridS.p, MeshS.l, MeshS.lF, MeshS.p, FinderS.l, FinderS.p, heapL, heapP, heapLF, FinderS.lF, RouteS.l, RouteS.p]
  refine Sq (Rg ?_)
  refine Wp (po_lt rfl rfl) ?_
  refine Sn (Aw (Sq ?_))
  refine Rc rfl ?_ ?_
  ·skip
   intro hlt
   have hkl : k < (nodesN f.m.g.w f.m.g.h f.m.g.c (sectorN f.m.g.w f.m.g.h t)).length := by omega
   obtain ⟨a, hae⟩ : ∃ a, (nodesN f.m.g.w f.m.g.h f.m.g.c (sectorN f.m.g.w f.m.g.h t))[(k : Int).toNat]'(by omega) = a := ⟨_, rfl⟩
   have hza : (nodesN f.m.g.w f.m.g.h f.m.g.c (sectorN f.m.g.w f.m.g.h t))[k] = a := hae
   have hmem : a ∈ nodesN f.m.g.w f.m.g.h f.m.g.c (sectorN f.m.g.w f.m.g.h t) := hza ▸ List.getElem_mem hkl
   obtain ⟨han, has⟩ := (mem_nodes ok.g hts).1 hmem
   rw [List.drop_eq_getElem_cons hkl, hza] at hs
   have hah : 0 ≤ a ∧ a < R.length := ⟨han.1.1.1, by have := han.1.1.2.1; rw [hs.rl]; exact this⟩
   have hal := hs.hl
   simp only [List.length_cons, List.length_nil] at hal
   by_cases hsm : (kv.lookup a).isSome = true
   ·skip
    obtain ⟨x, hx⟩ := Option.isSome_iff_exists.1 hsm
    have hto : Opn f.m.g.c t := Classical.byContradiction fun h => by rw [hk0 h] at hx; cases hx
    have hsdx : sdN f.m.g t a = x := by rw [sd_eq ok.g (hk1 hto), kvF, hx]; rfl
    have hxb := hk2 a x hx
    refine Sk (Aw (Sq (Bk (Sq (Rg ?_)))))
    refine Wp (po_iaddr rfl rfl (by exact fc_slice_35_3_1) (by first | omega | (simp <;> omega)) (by first | omega | (simp <;> omega))) ?_
    refine Wp (po_load_sl rfl (List.getElem?_eq_getElem (by first | omega | (simp <;> omega))) (by exact fc_flat_3) (by rfl)) ?_
    refine rp 1 rfl ?_
    refine Sn (Aw (Sq ?_))
    rw [hae]
    refine Rg ?_
    refine rp 2 rfl ?_
    refine Wp (po_lookup rfl rfl (by exact fc_map_129_3_3) (by exact fc_zint_3)) ?_
    refine rp 5 rfl ?_
    refine Sn (Aw (Sq ?_))
    simp only [hx, Option.getD_some, Option.getD_none, Option.isSome_some, Option.isSome_none]
    refine Rg ?_
    refine rp 1 rfl ?_
    refine Wp (po_bt (po_move rfl) (rfl)) ?_
    refine rp 3 rfl ?_
    refine Wc (co_fn rfl rfl) (route_near ⟨b39, t, f.m.g.ep, v37, R⟩ a x hah hs.rr hxb.1) ?_
    rintro v69 _ ⟨rfl, rfl⟩
    try dsimp only [ca, na, GridS.l, GridS.p, MeshS.l, MeshS.lF, MeshS.p, FinderS.l, FinderS.p, heapL, heapP, heapLF, FinderS.lF, RouteS.l, RouteS.p]
    refine rp 1 rfl ?_
    refine Sn (Aw ?_)
    refine Rc rfl ?_ ?_
    ·skip
     intro hn
     rw [if_pos hn]
     refine Rg ?_
     refine rp 3 rfl ?_
     refine Wc (co_fn rfl rfl) (heap_Push hb0 v l x a (by omega) hph) ?_
     rintro v74 _ ⟨v2, l2, rfl, rfl, hp2, hl2⟩
     try dsimp only [ca, na, GridS.l, GridS.p, MeshS.l, MeshS.lF, MeshS.p, FinderS.l, FinderS.p, heapL, heapP, heapLF, FinderS.lF, RouteS.l, RouteS.p]
     refine Sn (Bn (Aw (Rg ?_)))
     refine Wp (po_add' rfl rfl (by omega) (by omega)) ?_
     refine rp 1 rfl ?_
     refine Sn ?_
     exact at_again ((k + 1, v2, l2, R.set a.toNat x)) (And.intro rfl (trivial)) (And.intro rfl (And.intro rfl (And.intro rfl (And.intro rfl (And.intro rfl (And.intro rfl (trivial))))))) (⟨by omega, hp2, hs.relax ok.g han hn hxb.1 hxb.1 hl2 (by have h1 := hl2.length_eq; rw [List.length_cons] at h1; simp only [List.length_nil]; omega) (fun j hj => (List.mem_cons.1 hj).elim (fun h => .inr ⟨h, by rw [hsdx]; exact Int.le_refl _⟩) .inl) (fun y hy => .inl hy) (.inl ⟨hto, has, by rw [hsdx]; exact hxb.2.1, hsdx.symm⟩)⟩) (by omega) ent
    ·skip
     intro hn
     rw [if_neg hn]
     refine Sk (Bn (Aw (Rg ?_)))
     refine Wp (po_add' rfl rfl (by omega) (by omega)) ?_
     refine rp 1 rfl ?_
     refine Sn ?_
     exact at_again ((k + 1, v, l, R)) (And.intro rfl (trivial)) (And.intro rfl (And.intro rfl (And.intro rfl (And.intro rfl (And.intro rfl (And.intro rfl (trivial))))))) (⟨by omega, hph, hs.dropI (fun _ _ => by rw [hsdx]; omega)⟩) (by omega) ent
   ·skip
    have hx : kv.lookup a = none := by
        cases h : kv.lookup a with
        | none => rfl
        | some x => rw [h] at hsm; exact absurd rfl hsm
    refine Sk (Aw (Sq (Bk (Sq (Rg ?_)))))
    refine Wp (po_iaddr rfl rfl (by exact fc_slice_35_3_1) (by first | omega | (simp <;> omega)) (by first | omega | (simp <;> omega))) ?_
    refine Wp (po_load_sl rfl (List.getElem?_eq_getElem (by first | omega | (simp <;> omega))) (by exact fc_flat_3) (by rfl)) ?_
    refine rp 1 rfl ?_
    refine Sn (Aw (Sq ?_))
    rw [hae]
    refine Rg ?_
    refine rp 2 rfl ?_
    refine Wp (po_lookup rfl rfl (by exact fc_map_129_3_3) (by exact fc_zint_3)) ?_
    refine rp 5 rfl ?_
    refine Sn (Aw (Sq ?_))
    simp only [hx, Option.getD_some, Option.getD_none, Option.isSome_some, Option.isSome_none]
    refine Rg ?_
    refine rp 1 rfl ?_
    refine Wp (po_bf (po_move rfl) (rfl)) ?_
    refine rp 5 rfl ?_
    refine Sn (Aw ?_)
    refine r_cond_f rfl rfl ?_
    refine Sk (Bn (Aw (Rg ?_)))
    refine Wp (po_add' rfl rfl (by omega) (by omega)) ?_
    refine rp 1 rfl ?_
    refine Sn ?_
    exact at_again ((k + 1, v, l, R)) (And.intro rfl (trivial)) (And.intro rfl (And.intro rfl (And.intro rfl (And.intro rfl (And.intro rfl (And.intro rfl (trivial))))))) (⟨by omega, hph, hs.dropI (fun ho h => by rw [sd_eq ok.g (hk1 ho), kvF, hx] at h; exact absurd h (by decide))⟩) (by omega) ent
  ·skip
   intro hlt
   rw [List.drop_eq_nil_of_le (by omega)] at hs
   have hsl := hs.hl
   simp only [List.length_cons, List.length_nil] at hsl
   have hdl0 : (0 : Nat) ≤ f.m.g.c.length := by omega
   refine Ex' (Ax (Ax (Bh (Aw (Sq ?_)))))
   refine r_joink (S := Bool × Ent × Value × List Ent) (fun ⟨o, e, v, l⟩ => [(14, .int .i64 e.key), (15, .int .i64 e.item), (16, .bool o)]) [(0, _), (7, _), (8, _)] (fun ⟨o, e, v, l⟩ => Blk hb0 157 [v] :: Sl eH v l :: Blk b39 84 [.int .i64 t, .int .i64 f.m.g.ep, v37] :: Sl eW v37 R :: f.lF kept F) (fun ⟨o, e, v, l⟩ => NxS f.m.g t R o e l [] 0 0) (And.intro rfl (And.intro rfl (And.intro rfl (trivial)))) ?_ ?_
   ·skip
    by_cases hl0 : l = []
    ·skip
     subst hl0
     refine Rg ?_
     refine rp 1 rfl ?_
     refine Wc (co_fn rfl rfl) (heap_Pop0 hb0 v) ?_
     rintro v78 _ ⟨rfl, rfl⟩
     try dsimp only [ca, na, GridS.l, GridS.p, MeshS.l, MeshS.lF, MeshS.p, FinderS.l, FinderS.p, heapL, heapP, heapLF, FinderS.lF, RouteS.l, RouteS.p]
     refine rp 7 rfl ?_
     refine Sn ?_
     exact at_join ((false, ⟨0, 0⟩, v, [])) (And.intro rfl (And.intro rfl (And.intro rfl (trivial)))) (And.intro rfl (And.intro rfl (And.intro rfl (trivial)))) (NxS.mk_f hs hph) ent
    ·skip
     refine Rg ?_
     refine rp 1 rfl ?_
     refine Wc (co_fn rfl rfl) (heap_Pop hb0 v l (by have := List.length_pos_iff.2 hl0; omega) (by omega) hph) ?_
     rintro v78 _ ⟨e', v', l', rfl, rfl, hpm', hp', hmin'⟩
     try dsimp only [ca, na, GridS.l, GridS.p, MeshS.l, MeshS.lF, MeshS.p, FinderS.l, FinderS.p, heapL, heapP, heapLF, FinderS.lF, RouteS.l, RouteS.p]
     refine rp 7 rfl ?_
     refine Sn ?_
     exact at_join ((true, e', v', l')) (And.intro rfl (And.intro rfl (And.intro rfl (trivial)))) (And.intro rfl (And.intro rfl (And.intro rfl (trivial)))) (NxS.mk_t hs hpm' hmin' hp') ent
   ·skip
    rintro ⟨o, e, v, l⟩ hI0
    try dsimp only [ca, na, GridS.l, GridS.p, MeshS.l, MeshS.lF, MeshS.p, FinderS.l, FinderS.p, heapL, heapP, heapLF, FinderS.lF, RouteS.l, RouteS.p]
    refine Bk ?_
    refine r_loop (S := Bool × Ent × Value × List Ent × List Int × List Int × Int × Int) (fun ⟨o, e, v, l, R, dn, top, cur⟩ => [(14, .int .i64 e.key), (15, .int .i64 e.item), (16, .bool o)]) [(0, _), (7, _), (8, _)] (fun ⟨o, e, v, l, R, dn, top, cur⟩ => Blk hb0 157 [v] :: Sl eH v l :: Blk b39 84 [.int .i64 t, .int .i64 f.m.g.ep, v37] :: Sl eW v37 R :: f.lF kept F) (fun ⟨o, e, v, l, R, dn, top, cur⟩ => NxS f.m.g t R o e l dn top cur) (fun ⟨o, e, v, l, R, dn, top, cur⟩ => muS dn f.m.g.c.length o l) ((o, e, v, l, R, [], 0, 0)) (And.intro rfl (And.intro rfl (And.intro rfl (trivial)))) (And.intro rfl (And.intro rfl (And.intro rfl (trivial)))) (hI0) ent ?_
    rintro ⟨o, e, v, l, R, dn, top, cur⟩ hI
    try dsimp only [ca, na, GridS.l, GridS.p, MeshS.l, MeshS.lF, MeshS.p, FinderS.l, FinderS.p, heapL, heapP, heapLF, FinderS.lF, RouteS.l, RouteS.p]
    have hil := hI.hl
    have hidl := hI.dl
    refine Sq (Sq (Rg ?_))
    refine rp 1 rfl ?_
    refine Sn (Aw ?_)
    refine Rc rfl ?_ ?_
    ·skip
     intro ho
     obtain ⟨hp, hs, hpp, hmn⟩ := hI.ok ho
     have hmv := muS_t dn f.m.g.c.length l ho
     have hew := hs.hw e (hpp.mem_iff.2 (List.mem_cons_self ..))
     have hee : 0 ≤ e.item ∧ e.item < R.length := ⟨hew.1.1.1.1, by have := hew.1.1.1.2.1; rw [hs.rl]; exact this⟩
     have hge : gAt R e.item = R[e.item.toNat]'(by omega) := gAt_get (by omega)
     have hrb := hs.rr _ (List.getElem_mem (show e.item.toNat < R.length by omega))
     refine Sk (Aw (Sq (Bk (Sq (Sq (Rg ?_))))))
     refine rp 3 rfl ?_
     refine Wp (po_faddr rfl (by exact fc_field_84_2_2)) ?_
     refine Wp (po_load rfl (by exact fc_flat_82) (by rfl)) ?_
     refine rp 1 rfl ?_
     refine Wp (po_iaddr rfl rfl (by exact fc_slice_82_21_1) (by first | omega | (simp <;> omega)) (by first | omega | (simp <;> omega))) ?_
     refine Wp (po_load_sl rfl (List.getElem?_eq_getElem (by first | omega | (simp <;> omega))) (by exact fc_flat_21) (by rfl)) ?_
     refine Wp (po_conv_w rfl (by exact fc_int_21_i32) (by exact fc_int_3_i64) (wrap_i64 _ (by omega) (by omega))) ?_
     refine Wp (po_gt rfl rfl) ?_
     refine Sn (Aw ?_)
     refine Rc rfl ?_ ?_
     ·skip
      intro hk
      have hs2 := hs.popOld hpp (by omega)
      by_cases hl0 : l = []
      ·skip
       subst hl0
       refine Ex' (Ax (Bh (Aw (Rg ?_))))
       refine rp 1 rfl ?_
       refine Wc (co_fn rfl rfl) (heap_Pop0 hb0 v) ?_
       rintro v85 _ ⟨rfl, rfl⟩
       try dsimp only [ca, na, GridS.l, GridS.p, MeshS.l, MeshS.lF, MeshS.p, FinderS.l, FinderS.p, heapL, heapP, heapLF, FinderS.lF, RouteS.l, RouteS.p]
       refine rp 7 rfl ?_
       refine Sn ?_
       exact at_again ((false, ⟨0, 0⟩, v, [], R, dn, top, cur)) (And.intro rfl (And.intro rfl (And.intro rfl (trivial)))) (And.intro rfl (And.intro rfl (And.intro rfl (trivial)))) (NxS.mk_f hs2 hI.hp) (by rw [hmv, muS_f _ _ _ rfl]; simp) ent
      ·skip
       refine Ex' (Ax (Bh (Aw (Rg ?_))))
       refine rp 1 rfl ?_
       refine Wc (co_fn rfl rfl) (heap_Pop hb0 v l (by have := List.length_pos_iff.2 hl0; omega) (by omega) hI.hp) ?_
       rintro v85 _ ⟨e', v', l', rfl, rfl, hpm', hp', hmin'⟩
       try dsimp only [ca, na, GridS.l, GridS.p, MeshS.l, MeshS.lF, MeshS.p, FinderS.l, FinderS.p, heapL, heapP, heapLF, FinderS.lF, RouteS.l, RouteS.p]
       refine rp 7 rfl ?_
       refine Sn ?_
       exact at_again ((true, e', v', l', R, dn, top, cur)) (And.intro rfl (And.intro rfl (And.intro rfl (trivial)))) (And.intro rfl (And.intro rfl (And.intro rfl (trivial)))) (NxS.mk_t hs2 hpm' hmin' hp') (by rw [hmv, muS_t _ _ _ rfl]; have := hpm'.length_eq; simp only [List.length_cons] at this; dsimp only; omega) ent
     ·skip
      intro hk
      refine Sk (Aw (Sq (Rg ?_)))
      refine rp 2 rfl ?_
      refine Wp (po_faddr rfl (by exact fc_field_98_0_0)) ?_
      refine Wp (po_load rfl (by exact fc_flat_63) (by rfl)) ?_
      refine rp 1 rfl ?_
      refine Wc (co_fn rfl rfl) (mesh_Into f.m ok e.item hew.1.1.2 ((mem_nodes ok.g (sector_lt hew.1.1.2).1).2 ⟨hew.1, rfl⟩)) ?_
      rintro v104 _ ⟨d, es, rfl, hel, hdl, hd, hes⟩
      try dsimp only [ca, na, GridS.l, GridS.p, MeshS.l, MeshS.lF, MeshS.p, FinderS.l, FinderS.p, heapL, heapP, heapLF, FinderS.lF, RouteS.l, RouteS.p]
      have hed := into_ed ok hew.1 hdl hd hes
      obtain ⟨hs2, hke, hun⟩ := hs.popNew hpp hmn (by omega) hel (fun a c h => (hed a c).2 h)
      have hcn2 := hs2.cnt
      simp only [List.length_cons] at hcn2
      refine Wp (po_len rfl (by exact fc_slice_73_76_2)) ?_
      refine rp 1 rfl ?_
      refine Sn (Aw (Bk ?_))
      refine r_loop (S := Nat × Value × List Ent × List Int) (fun ⟨j, v, l', R'⟩ => [(106, .int .i64 j)]) [(0, _), (7, _), (8, _), (14, _), (104, _), (105, _)] (fun ⟨j, v, l', R'⟩ => Sl eE v104 es :: Blk hb0 157 [v] :: Sl eH v l' :: Blk b39 84 [.int .i64 t, .int .i64 f.m.g.ep, v37] :: Sl eW v37 R' :: f.lF kept F) (fun ⟨j, v, l', R'⟩ => j ≤ es.length ∧ l'.length ≤ l.length + j ∧ HpL l' ∧ gAt R' e.item = e.key ∧ Sch f.m.g t R' l' (e.item :: dn) e.key e.item [] (es.drop j)) (fun ⟨j, v, l', R'⟩ => es.length - j) ((0, v, l, R)) (And.intro rfl (And.intro rfl (And.intro rfl (And.intro rfl (And.intro rfl (And.intro rfl (trivial))))))) (And.intro rfl (trivial)) (⟨by omega, by omega, hI.hp, hke, hs2⟩) ent ?_
      rintro ⟨j, v, l', R'⟩ ⟨hj, hll, hph, hkr, hs3⟩
      try dsimp only [ca, na, GridS.l, GridS.p, MeshS.l, MeshS.lF, MeshS.p, FinderS.l, FinderS.p, heapL, heapP, heapLF, FinderS.lF, RouteS.l, RouteS.p]
      have hl3 := hs3.hl
      simp only [List.length_cons, List.length_nil] at hl3
      refine Sq (Rg ?_)
      refine Wp (po_lt rfl rfl) ?_
      refine Sn (Aw (Sq ?_))
      refine Rc rfl ?_ ?_
      ·skip
       intro hlt
       have hjl : j < es.length := by omega
       rw [List.drop_eq_getElem_cons hjl] at hs3 hl3
       simp only [List.length_cons, List.length_nil] at hl3
       obtain ⟨x, hxe⟩ : ∃ x, es[(j : Int).toNat]'(by omega) = x := ⟨_, rfl⟩
       have hxj : es[j] = x := hxe
       rw [hxj] at hs3
       have hxd : EdR f.m.g e.item x.to x.cost := (hed _ _).1 (by rw [← hxj]; exact List.getElem_mem hjl)
       have hxt : 0 ≤ x.to ∧ x.to < R'.length := ⟨hxd.1.1.1.1, by have := hxd.1.1.1.2.1; rw [hs3.rl]; exact this⟩
       have hxc : 0 ≤ x.cost ∧ x.cost ≤ 1099511627776 := by
           rcases hxd.2 with ⟨_, _, h1, h2⟩ | ⟨_, _, h2⟩
           · have := (mesh_sd ok hew.1).rng x.to; omega
           · have := opn_cost ok.g hew.1.1.1; omega
       refine Sk (Aw (Sq (Bk (Sq (Rg ?_)))))
       refine Wp (po_iaddr rfl rfl (by exact fc_slice_73_76_2) (by first | omega | (simp <;> omega)) (by first | omega | (simp <;> omega))) ?_
       refine Wp (ld_eE rfl (List.getElem?_eq_getElem (by first | omega | (simp <;> omega))) (by exact fc_agg_76_2)) ?_
       refine Wx (xo_alloc (by exact fc_zero_76)) ?_
       rintro _ _ ⟨b18, rfl, rfl⟩
       refine Ws (so_storea1 rfl rfl (by exact fc_agg_76_2) rfl rfl) ?_
       refine Sn (Aw (Sq ?_))
       rw [hxe]
       refine Rg ?_
       refine rp 1 rfl ?_
       refine Wp (po_faddr rfl (by exact fc_field_76_0_0)) ?_
       refine Wp (po_load rfl (by exact fc_flat_3) (by rfl)) ?_
       refine rp 1 rfl ?_
       refine Wp (po_faddr rfl (by exact fc_field_76_1_1)) ?_
       refine Wp (po_load rfl (by exact fc_flat_3) (by rfl)) ?_
       refine Wp (po_add' rfl rfl (by omega) (by omega)) ?_
       refine Wc (co_fn rfl rfl) (route_near ⟨b39, t, f.m.g.ep, v37, R'⟩ x.to (e.key + x.cost) hxt hs3.rr (by omega)) ?_
       rintro v117 _ ⟨rfl, rfl⟩
       try dsimp only [ca, na, GridS.l, GridS.p, MeshS.l, MeshS.lF, MeshS.p, FinderS.l, FinderS.p, heapL, heapP, heapLF, FinderS.lF, RouteS.l, RouteS.p]
       refine Sn (Aw ?_)
       refine Rc rfl ?_ ?_
       ·skip
        intro hn
        rw [if_pos hn]
        refine Rg ?_
        refine rp 2 rfl ?_
        refine Wp (po_faddr rfl (by exact fc_field_76_1_1)) ?_
        refine Wp (po_load rfl (by exact fc_flat_3) (by rfl)) ?_
        refine Wp (po_add' rfl rfl (by omega) (by omega)) ?_
        refine Wp (po_faddr rfl (by exact fc_field_76_0_0)) ?_
        refine Wp (po_load rfl (by exact fc_flat_3) (by rfl)) ?_
        refine Wc (co_fn rfl rfl) (heap_Push hb0 v l' (e.key + x.cost) x.to (by omega) hph) ?_
        rintro v125 _ ⟨v2, l2, rfl, rfl, hp2, hl2⟩
        try dsimp only [ca, na, GridS.l, GridS.p, MeshS.l, MeshS.lF, MeshS.p, FinderS.l, FinderS.p, heapL, heapP, heapLF, FinderS.lF, RouteS.l, RouteS.p]
        have hs4 := hs3.relax (todoI' := []) (todo' := es.drop (j + 1)) ok.g hxd.1 hn (by omega) (by omega) hl2 (by have h1 := hl2.length_eq; rw [List.length_cons] at h1; simp only [List.length_nil, List.length_cons]; omega) (fun y hy => .inl hy) (fun y hy => (List.mem_cons.1 hy).elim (fun h => .inr ⟨by rw [h], by rw [h, hkr]; exact Int.le_refl _⟩) .inl) (.inr ⟨e.item, x.cost, List.mem_cons_self .., hxd, by rw [hkr]⟩)
        have hkr2 : gAt (R'.set x.to.toNat (e.key + x.cost)) e.item = e.key := by rw [gAt_set hxt.1 hxt.2 hew.1.1.1.1, if_neg (fun h => by rw [h] at hkr; omega)]; exact hkr
        refine Sn (Bn (Aw (Rg ?_)))
        refine Wp (po_add' rfl rfl (by omega) (by omega)) ?_
        refine rp 1 rfl ?_
        refine Sn ?_
        exact at_again ((j + 1, v2, l2, R'.set x.to.toNat (e.key + x.cost))) (And.intro rfl (trivial)) (And.intro rfl (And.intro rfl (And.intro rfl (And.intro rfl (And.intro rfl (And.intro rfl (trivial))))))) (⟨by omega, by have := hl2.length_eq; simp only [List.length_cons] at this; dsimp only; omega, hp2, hkr2, hs4⟩) (by omega) ent
       ·skip
        intro hn
        rw [if_neg hn]
        refine Sk (Bn (Aw (Rg ?_)))
        refine Wp (po_add' rfl rfl (by omega) (by omega)) ?_
        refine rp 1 rfl ?_
        refine Sn ?_
        exact at_again ((j + 1, v, l', R')) (And.intro rfl (trivial)) (And.intro rfl (And.intro rfl (And.intro rfl (And.intro rfl (And.intro rfl (And.intro rfl (trivial))))))) (⟨by omega, by dsimp only; omega, hph, hkr, hs3.dropE (by rw [hkr]; omega)⟩) (by omega) ent
      ·skip
       intro hlt
       rw [List.drop_eq_nil_of_le (by omega)] at hs3
       by_cases hl0 : l' = []
       ·skip
        subst hl0
        refine Ex' (Ax (Ax (Bh (Bn (Aw (Rg ?_))))))
        refine rp 1 rfl ?_
        refine Wc (co_fn rfl rfl) (heap_Pop0 hb0 v) ?_
        rintro v85 _ ⟨rfl, rfl⟩
        try dsimp only [ca, na, GridS.l, GridS.p, MeshS.l, MeshS.lF, MeshS.p, FinderS.l, FinderS.p, heapL, heapP, heapLF, FinderS.lF, RouteS.l, RouteS.p]
        refine rp 7 rfl ?_
        refine Sn ?_
        exact at_again ((false, ⟨0, 0⟩, v, [], R', e.item :: dn, e.key, e.item)) (And.intro rfl (And.intro rfl (And.intro rfl (trivial)))) (And.intro rfl (And.intro rfl (And.intro rfl (trivial)))) (NxS.mk_f hs3 hph) (by rw [hmv, muS_f _ _ _ rfl]; simp; omega) ent
       ·skip
        refine Ex' (Ax (Ax (Bh (Bn (Aw (Rg ?_))))))
        refine rp 1 rfl ?_
        refine Wc (co_fn rfl rfl) (heap_Pop hb0 v l' (by have := List.length_pos_iff.2 hl0; omega) (by omega) hph) ?_
        rintro v85 _ ⟨e', v', l5, rfl, rfl, hpm', hp', hmin'⟩
        try dsimp only [ca, na, GridS.l, GridS.p, MeshS.l, MeshS.lF, MeshS.p, FinderS.l, FinderS.p, heapL, heapP, heapLF, FinderS.lF, RouteS.l, RouteS.p]
        refine rp 7 rfl ?_
        refine Sn ?_
        exact at_again ((true, e', v', l5, R', e.item :: dn, e.key, e.item)) (And.intro rfl (And.intro rfl (And.intro rfl (trivial)))) (And.intro rfl (And.intro rfl (And.intro rfl (trivial)))) (NxS.mk_t hs3 hpm' hmin' hp') (by rw [hmv, muS_t _ _ _ rfl]; have := hpm'.length_eq; simp only [List.length_cons] at this; dsimp only; omega) ent
    ·skip
     intro ho
     obtain ⟨rfl, hs⟩ := hI.no (by simpa using ho)
     refine Ex' (Ax (Ax (Bh (Aw (Sq (Rg ?_))))))
     refine rp 2 rfl ?_
     refine Sn (Aw (Rt ?_))
     refine at_ret1 rfl (rv_tmp rfl) ⟨_, ⟨⟨b39, t, f.m.g.ep, v37, R⟩, rfl, rfl, rfl, rfl, hs.rl, hs.rr, hsd, hs.done⟩, ?_⟩
     try dsimp only [ca, na, GridS.l, GridS.p, MeshS.l, MeshS.lF, MeshS.p, FinderS.l, FinderS.p, heapL, heapP, heapLF, FinderS.lF, RouteS.l, RouteS.p]
     exact ent
end Hd
end
section
namespace Hd
open Classical
/-! ## the whole map's distances: there is one solution -/
inductive Pth (w h : Int) (C : List Int) (t : Int) : Int → Nat → Prop
  | nil : OpC w h C t → Pth w h C t t 0
  | step {c m : Int} {n : Nat} : OpC w h C c → Adj w h c m → Pth w h C t m n → Pth w h C t c (n + (gAt C m).toNat)
theorem least {p : Nat → Prop} (h : ∃ n, p n) : ∃ n, p n ∧ ∀ m, p m → n ≤ m := by
  obtain ⟨n, hn⟩ := h
  induction n using Nat.strongRecOn with
  | _ n ih =>
    by_cases e : ∃ m, m < n ∧ p m
    · obtain ⟨m, hm, hp⟩ := e; exact ih m hm hp
    · exact ⟨n, hn, fun m hm => by rcases Nat.lt_or_ge m n with h | h; exact absurd ⟨m, h, hm⟩ e; exact h⟩
section
variable {w h : Int} {C : List Int} {t : Int}
theorem Pth.op {c : Int} {n : Nat} (k : Pth w h C t c n) : OpC w h C c := by cases k with
  | nil h => exact h
  | step h _ _ => exact h
/-- the least, where there is a way -/
def Lst (w h : Int) (C : List Int) (t c : Int) (n : Nat) : Prop := Pth w h C t c n ∧ ∀ m, Pth w h C t c m → n ≤ m
theorem Lst.uniq {c : Int} {n m : Nat} (a : Lst w h C t c n) (b : Lst w h C t c m) : n = m := by have := a.2 m b.1; have := b.2 n a.1; omega
theorem Lst.step {c : Int} {n : Nat} (k : Lst w h C t c n) : (c = t ∧ n = 0) ∨ ∃ m n', Adj w h c m ∧ OpC w h C c ∧ Lst w h C t m n' ∧ n = n' + (gAt C m).toNat := by
  obtain ⟨k, hl⟩ := k
  cases k with
  | nil h => exact .inl ⟨rfl, rfl⟩
  | @step _ m n' h1 h2 h3 =>
    refine .inr ⟨m, n', h2, h1, ⟨h3, fun x hx => ?_⟩, rfl⟩
    have := hl _ (.step h1 h2 hx)
    omega
theorem Lst.bound (hC : ∀ c, OpC w h C c → 1 ≤ gAt C c ∧ gAt C c ≤ 255) : ∀ (n : Nat) (c : Int), Lst w h C t c n → n ≤ 255 * (List.range C.length).countP (fun (i : Nat) => decide (∃ m, Lst w h C t i m ∧ m < n)) := by
  intro n
  induction n using Nat.strongRecOn with
  | _ n ih =>
    intro c hc
    rcases hc.step with ⟨_, e⟩ | ⟨m, n', h1, h2, h3, e⟩
    · omega
    · have hm := hC m h3.1.op
      have hmo := h3.1.op
      have := ih n' (by omega) m h3
      have hmm : ((m.toNat : Nat) : Int) = m := Int.toNat_of_nonneg hmo.1.1
      have hcnt := cnt_lt (fun i : Nat => decide (∃ x, Lst w h C t i x ∧ x < n')) (fun i : Nat => decide (∃ x, Lst w h C t i x ∧ x < n))
        (fun x hx => by have := of_decide_eq_true hx; exact decide_eq_true (by obtain ⟨y, h5, h6⟩ := this; exact ⟨y, h5, by omega⟩)) (List.range C.length) m.toNat (List.mem_range.2 (by have := hmo.1.2.1; omega))
        (decide_eq_true ⟨n', by rw [hmm]; exact h3, by omega⟩) (decide_eq_false (fun ⟨y, h5, h6⟩ => by rw [hmm] at h5; have := h5.uniq h3; omega))
      omega
end
theorem opc_cost {g : GridS} (ok : GridOk g) {c : Int} (h : OpC g.w g.h g.c c) : 1 ≤ gAt g.c c ∧ gAt g.c c ≤ 255 := opn_cost ok h.1
theorem flat_ex {g : GridS} (ok : GridOk g) (t : Int) : ∃ D, IsD g.w g.h g.c (OpC g.w g.h g.c) (srcT g.c t) D ∧ ∀ c, D c < INF → D c ≤ 255 * g.c.length := by
  have hI : INF = 1099511627776 := rfl
  have hlen : g.c.length ≤ 1048576 := by have := ok.len; have := may_mul ok.may; omega
  have hex : ∀ c, ∃ v : Int, (∃ n : Nat, v = n ∧ Lst g.w g.h g.c t c n) ∨ (v = INF ∧ ∀ n, ¬ Pth g.w g.h g.c t c n) := by
    intro c
    by_cases e : ∃ n, Pth g.w g.h g.c t c n
    · obtain ⟨n, hn⟩ := least e; exact ⟨n, .inl ⟨n, rfl, hn⟩⟩
    · exact ⟨INF, .inr ⟨rfl, fun n hn => e ⟨n, hn⟩⟩⟩
  obtain ⟨D, hD⟩ : ∃ D : Int → Int, ∀ c, (∃ n : Nat, D c = n ∧ Lst g.w g.h g.c t c n) ∨ (D c = INF ∧ ∀ n, ¬ Pth g.w g.h g.c t c n) := ⟨fun c => Classical.choose (hex c), fun c => Classical.choose_spec (hex c)⟩
  have hb : ∀ c n, Lst g.w g.h g.c t c n → n ≤ 255 * g.c.length := fun c n k => by
    have h1 := Lst.bound (fun c => opc_cost ok) n c k
    have h2 : (List.range g.c.length).countP (fun (i : Nat) => decide (∃ m, Lst g.w g.h g.c t i m ∧ m < n)) ≤ g.c.length := Nat.le_trans List.countP_le_length (by simp)
    omega
  refine ⟨D, ⟨fun c hn => ?_, fun c => ?_, fun c k hs => ?_, fun c m hc hm ha hl => ?_, fun c => ?_⟩, fun c hl => ?_⟩
  · rcases hD c with ⟨n, _, h2⟩ | ⟨h1, _⟩
    · exact absurd h2.1.op hn
    · exact h1
  · rcases hD c with ⟨n, h1, h2⟩ | ⟨h1, _⟩
    · right; have := hb c n h2; omega
    · exact .inl h1
  · obtain ⟨h1, rfl, rfl⟩ := hs
    have hp : Pth g.w g.h g.c c c 0 := .nil ⟨h1, opn_isC ok h1⟩
    rcases hD c with ⟨n, h3, h2⟩ | ⟨_, h2⟩
    · have := h2.2 0 hp; omega
    · exact absurd hp (h2 0)
  · rcases hD m with ⟨n, h1, h2⟩ | ⟨h1, _⟩
    · have hp := Pth.step hc ha h2.1
      have hcm := opc_cost ok hm
      rcases hD c with ⟨n', h3, h4⟩ | ⟨_, h4⟩
      · have := h4.2 _ hp; omega
      · exact absurd hp (h4 _)
    · omega
  · rcases hD c with ⟨n, h1, h2⟩ | ⟨h1, _⟩
    · rcases h2.step with ⟨e1, e2⟩ | ⟨m, n', h3, h4, h5, h6⟩
      · right; left
        have := h2.1.op
        exact ⟨by rw [← e1]; exact this.1, e1, by omega⟩
      · right; right
        have hcm := opc_cost ok h5.1.op
        have hbm := hb m n' h5
        rcases hD m with ⟨n2, h7, h8⟩ | ⟨_, h8⟩
        · have := h8.uniq h5
          exact ⟨m, h5.1.op, h3, by omega, by omega⟩
        · exact absurd h5.1 (h8 _)
    · exact .inl h1
  · rcases hD c with ⟨n, h1, h2⟩ | ⟨h1, _⟩
    · have := hb c n h2; omega
    · omega
noncomputable def flD (g : GridS) (t : Int) : Int → Int := Classical.epsilon fun D => IsD g.w g.h g.c (OpC g.w g.h g.c) (srcT g.c t) D
theorem fl_is {g : GridS} (ok : GridOk g) (t : Int) : IsD g.w g.h g.c (OpC g.w g.h g.c) (srcT g.c t) (flD g t) := by
  obtain ⟨D, h, _⟩ := flat_ex ok t
  exact Classical.epsilon_spec (p := fun D => IsD g.w g.h g.c (OpC g.w g.h g.c) (srcT g.c t) D) ⟨D, h⟩
theorem fl_eq {g : GridS} (ok : GridOk g) {t : Int} {D : Int → Int} (h : IsD g.w g.h g.c (OpC g.w g.h g.c) (srcT g.c t) D) (c : Int) : D c = flD g t c := isD_uniq (fun c hc => (opc_cost ok hc).1) h (fl_is ok t) c
theorem fl_bound {g : GridS} (ok : GridOk g) (t : Int) {c : Int} (h : flD g t c < INF) : 0 ≤ flD g t c ∧ flD g t c ≤ 255 * g.c.length := by
  obtain ⟨D, h1, h2⟩ := flat_ex ok t
  have := fl_eq ok h1 c
  have := (fl_is ok t).rng c
  have := h2 c (by omega)
  omega
end Hd
end
section
namespace Hd
set_option maxRecDepth 100000
open Go

/-- a route that tells of a grid as it is -/
structure RouteOk (g : GridS) (r : RouteS) : Prop where
  len : r.dist.length = g.c.length
  rng : ∀ x ∈ r.dist, 0 ≤ x ∧ x ≤ 2147483647
  nd : ∀ a, Nd g.w g.h g.c a → (if gAt r.dist a = FAR then INF else gAt r.dist a) = flD g r.goal a
  no : ∀ a : Int, 0 ≤ a → a < g.c.length → ¬ Nd g.w g.h g.c a → gAt r.dist a = FAR
theorem RouteOk.at {g : GridS} {r : RouteS} (ok : GridOk g) (k : RouteOk g r) (c : Int) : atN r c = (open Classical in if Nd g.w g.h g.c c then flD g r.goal c else INF) := by
  have hl := k.len
  have hF : FAR = 2147483647 := rfl
  have hI : INF = 1099511627776 := rfl
  unfold atN
  by_cases hn : Nd g.w g.h g.c c
  · rw [if_pos hn, ← k.nd c hn]
    have h1 := hn.1.1.1
    have h2 := hn.1.1.2.1
    by_cases e : gAt r.dist c = 2147483647
    · rw [if_neg (fun h => h.2.2 e), if_pos e]
    · rw [if_pos ⟨h1, by omega, e⟩, if_neg e]
  · rw [if_neg hn]
    by_cases e : 0 ≤ c ∧ c < r.dist.length ∧ gAt r.dist c ≠ 2147483647
    · exact absurd (k.no c e.1 (by omega) hn) e.2.2
    · rw [if_neg e]
theorem route_ok {m : MeshS} (ok : MeshFr m) {r : RouteS} (ht : IsC m.g.w m.g.h r.goal) (hl : r.dist.length = m.g.c.length) (hr : ∀ x ∈ r.dist, 0 ≤ x ∧ x ≤ FAR)
    (hs : Opn m.g.c r.goal → IsD m.g.w m.g.h m.g.c (InS m.g.w m.g.h m.g.c (sectorN m.g.w m.g.h r.goal)) (fun c k => c = r.goal ∧ k = 0) (sdN m.g r.goal))
    (hB : Bd m.g.w m.g.h m.g.c r.goal (Nd m.g.w m.g.h m.g.c) (sdN m.g) (fun a => if 0 ≤ a ∧ a < r.dist.length then gAt r.dist a else FAR)) : RouteOk m.g r := by
  have hlen := ok.g.len
  have hmul := may_mul ok.g.may
  have hF : FAR = 2147483647 := rfl
  refine ⟨hl, hr, fun a ha => ?_, fun a h0 h1 hn => ?_⟩
  · have := bd_eq (a := a) (fun c hc => (opc_cost ok.g hc).1) (fl_is ok.g r.goal) (fun c hc => by have := fl_bound ok.g r.goal hc; omega)
      (fun y hy => by
        rcases hy with hy | ⟨e, hy⟩
        · exact mesh_sd ok hy
        · rw [e]; exact hs hy.1) (fun ho => ⟨ho, ht⟩) hB ha
    have e : (if 0 ≤ a ∧ a < r.dist.length then gAt r.dist a else FAR) = gAt r.dist a := if_pos ⟨ha.1.1.1, by rw [hl]; exact ha.1.1.2.1⟩
    rw [e] at this
    exact this
  · rcases hB.tight a with e | e
    · rw [if_pos ⟨h0, by omega⟩] at e; exact e
    · exact absurd e.1 hn

/-- the route that is kept, if any -/
abbrev keptV (k : Option RouteS) : Value := match k with | some r => r.p | none => .pointer none
def keptL (k : Option RouteS) : List HP := match k with | some r => r.l | none => []
theorem route_Find0 (f : FinderS) (kept : Value) (ok : GridOk f.m.g) (t : Int) (ht : ¬ IsC f.m.g.w f.m.g.h t) : Spec PP 31 #[f.p, .int .i64 t] (f.l kept) (fun v M => v = .pointer none ∧ M = f.l kept) := by
  refine spec_of (Go.Proofs.Tryz.func31) rfl rfl rfl (by exact fc_enters_31) ?_
  intro g F
  try dsimp only [ca, na, GridS.l, GridS.p, MeshS.l, MeshS.lF, MeshS.p, FinderS.l, FinderS.p, FinderS.lF, RouteS.l, RouteS.p]
  refine Sq (Rg ?_)
  refine rp 1 rfl ?_
  refine Sn (Aw (Sq (Sq (Rg ?_))))
  refine rp 1 rfl ?_
  refine Wp (po_peq rfl rfl (by exact fc_ptr_61)) ?_
  refine Wp (po_bf (po_move rfl) (rfl)) ?_
  refine rp 2 rfl ?_
  refine Wp (po_faddr rfl (by exact fc_field_98_1_1)) ?_
  refine Wp (po_load rfl (by exact fc_flat_27) (by rfl)) ?_
  refine rp 1 rfl ?_
  refine Wc (co_fn rfl rfl) (grid_Cost f.m.g t ok.bytes) ?_
  rintro v13 _ ⟨rfl, rfl⟩
  try dsimp only [ca, na, GridS.l, GridS.p, MeshS.l, MeshS.lF, MeshS.p, FinderS.l, FinderS.p, FinderS.lF, RouteS.l, RouteS.p]
  refine Wp (po_eq rfl rfl) ?_
  refine rp 1 rfl ?_
  refine Sn (Aw ?_)
  first | refine r_dec_t rfl (by rw [costN, if_neg (fun h => ht (ok.isc.2 h))]) ?_ | refine r_nd_t rfl (by rw [costN, if_neg (fun h => ht (ok.isc.2 h))]) ?_ | refine r_cond_t rfl (by rw [costN, if_neg (fun h => ht (ok.isc.2 h))]) ?_
  refine Sq (Rg ?_)
  refine rp 1 rfl ?_
  refine Sn (Aw (Rt (Ar ?_)))
  refine at_ret1 rfl (rv_tmp rfl) ⟨_, ⟨rfl, rfl⟩, ?_⟩
  try dsimp only [ca, na, GridS.l, GridS.p, MeshS.l, MeshS.lF, MeshS.p, FinderS.l, FinderS.p, FinderS.lF, RouteS.l, RouteS.p]
  exact ent
theorem cost_ne {g : GridS} (ok : GridOk g) {t : Int} (ht : IsC g.w g.h t) : ¬ costN g.c t = 0 := by
  have h := ok.isc.1 ht
  rw [costN, if_pos h]
  have := ok.bt _ (List.getElem_mem (show t.toNat < g.c.length by omega))
  show ¬ gAt g.c t = 0
  rw [gAt_get (by omega)]; omega
/-- the first time -/
theorem route_Find1 (f : FinderS) (ok : MeshOk f.m) (t : Int) (ht : IsC f.m.g.w f.m.g.h t) (hc : 0 ≤ f.count ∧ f.count ≤ 18446744073709551615) : Spec PP 31 #[f.p, .int .i64 t] (f.l (.pointer none))
    (fun v M => ∃ (f' : FinderS) (r : RouteS), v = r.p ∧ M = f'.l r.p ++ r.l ∧ r.goal = t ∧ r.ep = f.m.g.ep ∧ RouteOk f.m.g r ∧ MeshOk f'.m ∧ f'.m.g = f.m.g ∧ f'.m.b = f.m.b ∧ f'.m.pv = f.m.pv ∧ f'.m.clean = f.m.g.ep ∧ f'.b = f.b ∧
      f'.m.count = min (f.m.count + (dirtyTo f.m f.m.ps.length).length) 18446744073709551615 ∧ f'.count = min (f.count + 1) 18446744073709551615) := by
  refine spec_of (Go.Proofs.Tryz.func31) rfl rfl rfl (by exact fc_enters_31) ?_
  intro g F
  try dsimp only [ca, na, GridS.l, GridS.p, MeshS.l, MeshS.lF, MeshS.p, FinderS.l, FinderS.p, FinderS.lF, RouteS.l, RouteS.p]
  refine Sq (Rg ?_)
  refine rp 1 rfl ?_
  refine Sn (Aw (Sq (Sq (Rg ?_))))
  refine rp 1 rfl ?_
  refine Wp (po_peq rfl rfl (by exact fc_ptr_61)) ?_
  refine Wp (po_bf (po_move rfl) (rfl)) ?_
  refine rp 2 rfl ?_
  refine Wp (po_faddr rfl (by exact fc_field_98_1_1)) ?_
  refine Wp (po_load rfl (by exact fc_flat_27) (by rfl)) ?_
  refine rp 1 rfl ?_
  refine Wc (co_fn rfl rfl) (grid_Cost f.m.g t ok.g.bytes) ?_
  rintro v13 _ ⟨rfl, rfl⟩
  try dsimp only [ca, na, GridS.l, GridS.p, MeshS.l, MeshS.lF, MeshS.p, FinderS.l, FinderS.p, FinderS.lF, RouteS.l, RouteS.p]
  refine Wp (po_eq rfl rfl) ?_
  refine rp 1 rfl ?_
  refine Sn (Aw ?_)
  first | refine r_dec_f rfl (cost_ne ok.g ht) ?_ | refine r_nd_f rfl (cost_ne ok.g ht) ?_ | refine r_cond_f rfl (cost_ne ok.g ht) ?_
  refine Sk (Aw (Sq (Rg ?_)))
  refine rp 2 rfl ?_
  refine Wp (po_faddr rfl (by exact fc_field_98_0_0)) ?_
  refine Wp (po_load rfl (by exact fc_flat_63) (by rfl)) ?_
  refine Wc (co_fn rfl rfl) (mesh_Rebuild f.m ok) ?_
  rintro v20 _ ⟨m', rfl, rfl, ok', hcl, hg, hb, hpv, hcnt⟩
  try dsimp only [ca, na, GridS.l, GridS.p, MeshS.l, MeshS.lF, MeshS.p, FinderS.l, FinderS.p, FinderS.lF, RouteS.l, RouteS.p]
  have hfr := ok'.fresh (by rw [hg]; exact hcl)
  obtain ⟨mb, mg, mpv, mps, mcl, mcn⟩ := m'
  dsimp only at hb hg hpv hcl hcnt
  subst hb hg hpv
  refine Sn (Aw (Sq (Sq ?_)))
  refine r_ord [] _ [(0, 1), (1, 1), (2, 1), (3, 0), (4, 1), (5, 1), (6, 1), (7, 1), (8, 1), (9, 0), (10, 1), (11, 1), (12, 0), (13, 1), (14, 1), (15, 1), (16, 1), (17, 1), (18, 1), (19, 1), (20, 0), (21, 1), (22, 1), (23, 0), (24, 1), (25, 1), (26, 1), (27, 0), (28, 2), (29, 1), (30, 1)] fc_mixed (by kernel_rfl) (fun _ h => h) ?_
  refine Of rfl (po_move rfl) ?_
  refine Of rfl (po_nil rfl) ?_
  refine Of rfl (po_faddr rfl (by exact fc_field_98_2_2)) ?_
  refine Or rfl (po_load rfl (by exact fc_flat_28) (by rfl)) ?_
  refine Of rfl (po_peq rfl rfl (by exact fc_ptr_28)) ?_
  refine Of rfl (po_bt (po_move rfl) (rfl)) ?_
  refine o_no rfl rfl rfl rfl ?_
  refine o_no rfl rfl rfl rfl ?_
  refine o_no rfl rfl rfl rfl ?_
  refine o_nor rfl (by first | exact fun _ h => h | exact ent) rfl rfl rfl ?_
  refine o_no rfl rfl rfl rfl ?_
  refine o_no rfl rfl rfl rfl ?_
  refine o_nor rfl (by first | exact fun _ h => h | exact ent) rfl rfl rfl ?_
  refine o_no rfl rfl rfl rfl ?_
  refine o_no rfl rfl rfl rfl ?_
  refine Of rfl (po_pick_t rfl rfl) ?_
  refine Of rfl (po_move rfl) ?_
  refine o_no rfl rfl rfl rfl ?_
  refine o_no rfl rfl rfl rfl ?_
  refine o_no rfl rfl rfl rfl ?_
  refine o_nor rfl (by first | exact fun _ h => h | exact ent) rfl rfl rfl ?_
  refine o_no rfl rfl rfl rfl ?_
  refine o_no rfl rfl rfl rfl ?_
  refine o_nor rfl (by first | exact fun _ h => h | exact ent) rfl rfl rfl ?_
  refine o_no rfl rfl rfl rfl ?_
  refine o_no rfl rfl rfl rfl ?_
  refine o_no rfl rfl rfl rfl ?_
  refine o_nor rfl (by first | exact fun _ h => h | exact ent) rfl rfl rfl ?_
  refine o_st rfl (st_no rfl rfl rfl ?_)
  refine ⟨fun _ => (by first | exact fun _ h => h | exact ent), ?_⟩
  refine o_no rfl rfl rfl rfl ?_
  refine Of rfl (po_pick_t rfl rfl) ?_
  refine o_nil ?_
  refine Aw ?_
  refine r_cond_t rfl rfl ?_
  refine Sq (Rg ?_)
  refine rp 3 rfl ?_
  refine Wc (co_fn rfl rfl) (route_search ⟨f.b, ⟨f.m.b, f.m.g, f.m.pv, mps, mcl, mcn⟩, f.count⟩ (.pointer none) hfr t ht) ?_
  rintro v55 _ ⟨r, rfl, rfl, hgo, hep, hdl, hdr, hsd, hB⟩
  try dsimp only [ca, na, GridS.l, GridS.p, MeshS.l, MeshS.lF, MeshS.p, FinderS.l, FinderS.p, FinderS.lF, RouteS.l, RouteS.p]
  refine rp 1 rfl ?_
  refine Wp (po_faddr rfl (by exact fc_field_98_2_2)) ?_
  refine Ws (so_store1 rfl rfl (by exact fc_flat_28) rfl) ?_
  refine Sn (Aw (Rg ?_))
  refine rp 3 rfl ?_
  refine Wp (po_faddr rfl (by exact fc_field_98_3_3)) ?_
  refine Wp (po_load rfl (by exact fc_flat_96) (by rfl)) ?_
  refine Wc (co_fn rfl rfl) (tally_Add f.count (by omega) (by omega)) ?_
  rintro v63 _ ⟨⟨n2, rfl, hn2⟩, rfl⟩
  try dsimp only [ca, na, GridS.l, GridS.p, MeshS.l, MeshS.lF, MeshS.p, FinderS.l, FinderS.p, FinderS.lF, RouteS.l, RouteS.p]
  refine rp 1 rfl ?_
  refine Wp (po_faddr rfl (by exact fc_field_98_3_3)) ?_
  refine Ws (so_store1 rfl rfl (by exact fc_flat_96) rfl) ?_
  refine Sn (Aw (Sq (Rg ?_)))
  refine rp 2 rfl ?_
  refine Wp (po_faddr rfl (by exact fc_field_98_2_2)) ?_
  refine Wp (po_load rfl (by exact fc_flat_28) (by rfl)) ?_
  refine rp 1 rfl ?_
  refine Sn (Aw (Rt ?_))
  subst hgo
  refine at_ret1 rfl (rv_tmp rfl) ⟨_, ⟨⟨f.b, ⟨f.m.b, f.m.g, f.m.pv, mps, mcl, mcn⟩, n2⟩, r, rfl, rfl, rfl, hep, route_ok (m := ⟨f.m.b, f.m.g, f.m.pv, mps, mcl, mcn⟩) hfr ht hdl hdr hsd hB, ok', rfl, rfl, rfl, hcl, rfl, hcnt, hn2⟩, ?_⟩
  try dsimp only [ca, na, GridS.l, GridS.p, MeshS.l, MeshS.lF, MeshS.p, FinderS.l, FinderS.p, FinderS.lF, RouteS.l, RouteS.p]
  exact ent
end Hd
end
section
namespace Hd
/-! ## what a sector is told -/
def sideN (w h a b : Int) : Int := if IsC w h a ∧ IsC w h b then match (List.range 5).find? (fun (s : Nat) => decide (stepN w h a s = b)) with | some s => (s : Int) | none => 5 else 5
theorem find_first {p : Nat → Bool} {n k : Nat} (hk : k < n) (h : p k = true) (hn : ∀ j, j < k → p j = false) : (List.range n).find? p = some k := by
  rw [List.find?_eq_some_iff_getElem]
  refine ⟨h, k, by simpa using hk, by simp, fun j hj => ?_⟩
  simp only [List.getElem_range]
  rw [hn j hj]; rfl
theorem find_none {p : Nat → Bool} {n : Nat} (hn : ∀ j, j < n → p j = false) : (List.range n).find? p = none := by
  rw [List.find?_eq_none]
  intro j hj
  rw [hn j (List.mem_range.1 hj)]; decide
theorem step_inj {w h c s s' : Int} (hc : IsC w h c) (hs : 0 ≤ s ∧ s ≤ 4) (hs' : 0 ≤ s' ∧ s' ≤ 4) (h0 : 0 ≤ stepN w h c s) (e : stepN w h c s = stepN w h c s') : s = s' := by
  have h1 := (step_ok hc hs.1 hs.2).2 h0
  have h2 := (step_ok hc hs'.1 hs'.2).2 (by omega)
  rw [← e] at h2
  have a1 : dx s = dx s' := by omega
  have a2 : dy s = dy s' := by omega
  unfold dx at a1
  unfold dy at a2
  split at a1 <;> split at a1 <;> split at a2 <;> split at a2 <;> (repeat' split at a1) <;> (repeat' split at a2) <;> omega
theorem side_step {w h c s : Int} (hc : IsC w h c) (hs : 0 ≤ s ∧ s ≤ 4) (h0 : 0 ≤ stepN w h c s) : sideN w h c (stepN w h c s) = s := by
  have h1 := ((step_ok hc hs.1 hs.2).2 h0).1
  unfold sideN
  rw [if_pos ⟨hc, h1⟩]
  cases e : (List.range 5).find? (fun (x : Nat) => decide (stepN w h c x = stepN w h c s)) with
  | none =>
    rw [List.find?_eq_none] at e
    have := e s.toNat (List.mem_range.2 (by omega))
    rw [Int.toNat_of_nonneg hs.1] at this
    exact absurd (decide_eq_true rfl) this
  | some x =>
    have h2 := List.find?_some e
    have h3 := List.mem_range.1 (List.mem_of_find?_eq_some e)
    simp only [decide_eq_true_eq] at h2
    show (x : Int) = s
    exact step_inj hc ⟨by omega, by omega⟩ hs (by rw [h2]; exact h0) h2
def seedE (w h : Int) (A : Int → Int) (c : Int) (e : Edg) : List Seed := if A e.to ≠ INF then [⟨localN w h c, sideN w h c e.to, e.cost + A e.to⟩] else []
def seedC (w h : Int) (C : List Int) (A : Int → Int) (c : Int) : List Seed := (crossN w h C c).flatMap (seedE w h A c)
def seedsO (w h : Int) (C : List Int) (A : Int → Int) (i : Int) : List Seed := (nodesN w h C i).flatMap (seedC w h C A)
def seedsG (w h : Int) (C : List Int) (A : Int → Int) (t i : Int) : List Seed := seedsO w h C A i ++ if sectorN w h t = i ∧ costN C t ≠ 255 then [⟨localN w h t, 4, 0⟩] else []
theorem flat_snoc {α β : Type} (f : α → List β) (l : List α) (k : Nat) (h : k < l.length) : (l.take (k + 1)).flatMap f = (l.take k).flatMap f ++ f l[k] := by
  rw [take_snoc l k h, List.flatMap_append]; simp
theorem flat_le {α β : Type} (f : α → List β) (K : Nat) (hf : ∀ a, (f a).length ≤ K) : ∀ l : List α, (l.flatMap f).length ≤ K * l.length
  | [] => by simp
  | a :: l => by
    rw [List.flatMap_cons, List.length_append, List.length_cons, Nat.mul_succ]
    have := hf a
    have := flat_le f K hf l
    omega
theorem seedE_len (w h : Int) (A : Int → Int) (c : Int) (e : Edg) : (seedE w h A c e).length ≤ 1 := by unfold seedE; split <;> simp
theorem crossN_len (w h : Int) (C : List Int) (c : Int) : (crossN w h C c).length ≤ 4 := by
  unfold crossN; split
  · exact crossTo_len w h C c 4
  · simp
theorem seedC_len (w h : Int) (C : List Int) (A : Int → Int) (c : Int) : (seedC w h C A c).length ≤ 4 := by
  have := flat_le (seedE w h A c) 1 (seedE_len w h A c) (crossN w h C c)
  have := crossN_len w h C c
  unfold seedC; omega
theorem seedsO_len (w h : Int) (C : List Int) (A : Int → Int) (i : Int) : (seedsO w h C A i).length ≤ 1024 := by
  have := flat_le (seedC w h C A) 4 (seedC_len w h C A) (nodesN w h C i)
  have := nodes_len w h C i
  unfold seedsO; omega
theorem seedsG_len (w h : Int) (C : List Int) (A : Int → Int) (t i : Int) : (seedsG w h C A t i).length ≤ 1025 := by
  have := seedsO_len w h C A i
  unfold seedsG
  rw [List.length_append]
  split <;> simp <;> omega
theorem mem_cross {g : GridS} (ok : GridOk g) {c : Int} (hc : OpC g.w g.h g.c c) {e : Edg} : e ∈ crossN g.w g.h g.c c ↔ ∃ k : Int, (0 ≤ k ∧ k < 4) ∧ OpC g.w g.h g.c (stepN g.w g.h c k) ∧ sectorN g.w g.h (stepN g.w g.h c k) ≠ sectorN g.w g.h c ∧ e = ⟨stepN g.w g.h c k, gAt g.c (stepN g.w g.h c k)⟩ := by
  unfold crossN crossTo
  rw [if_pos ((open_iff ok).2 hc.1), List.mem_flatMap]
  constructor
  · rintro ⟨j, hj, he⟩
    have hj := List.mem_range.1 hj
    split at he
    · rename_i h1
      have h2 := over_ge.1 h1.1
      have h3 := over_eq h1.1
      have h4 := (open_iff ok).1 h1.2
      rw [List.mem_singleton] at he
      rw [h3] at h4 he
      have h5 := opn_isC ok h4
      rw [cost_opn ok h5] at he
      exact ⟨j, by omega, ⟨h4, h5⟩, h2.2, he⟩
    · cases he
  · rintro ⟨k, hk, h1, h2, h3⟩
    refine ⟨k.toNat, List.mem_range.2 (by omega), ?_⟩
    rw [Int.toNat_of_nonneg hk.1]
    have h4 : 0 ≤ overN g.w g.h c k := over_ge.2 ⟨h1.1.1, h2⟩
    have h5 := over_eq h4
    rw [if_pos ⟨h4, by rw [h5]; exact (open_iff ok).2 h1.1⟩, h5, List.mem_singleton, cost_opn ok h1.2]
    exact h3
/-- what the border tells -/
theorem mem_seedsO {g : GridS} (ok : GridOk g) {A : Int → Int} {i : Int} (hi : IsS g.w g.h i) {s : Seed} : s ∈ seedsO g.w g.h g.c A i ↔
    ∃ c k : Int, OpC g.w g.h g.c c ∧ sectorN g.w g.h c = i ∧ (0 ≤ k ∧ k < 4) ∧ OpC g.w g.h g.c (stepN g.w g.h c k) ∧ sectorN g.w g.h (stepN g.w g.h c k) ≠ i ∧ A (stepN g.w g.h c k) ≠ INF ∧ s = ⟨localN g.w g.h c, k, gAt g.c (stepN g.w g.h c k) + A (stepN g.w g.h c k)⟩ := by
  unfold seedsO seedC
  rw [List.mem_flatMap]
  constructor
  · rintro ⟨c, hc, hs⟩
    obtain ⟨⟨hco, _⟩, hci⟩ := (mem_nodes ok hi).1 hc
    rw [List.mem_flatMap] at hs
    obtain ⟨e, he, hs⟩ := hs
    obtain ⟨k, hk, h1, h2, rfl⟩ := (mem_cross ok hco).1 he
    unfold seedE at hs
    dsimp only at hs
    split at hs
    · rename_i h3
      rw [List.mem_singleton, side_step hco.2 ⟨hk.1, by omega⟩ h1.1.1] at hs
      exact ⟨c, k, hco, hci, hk, h1, by rw [← hci]; exact h2, h3, hs⟩
    · cases hs
  · rintro ⟨c, k, hc, hci, hk, h1, h2, h3, rfl⟩
    have hst : 0 ≤ stepN g.w g.h c k := h1.1.1
    refine ⟨c, (mem_nodes ok hi).2 ⟨⟨hc, k, hk, hst, by rw [hci]; exact h2⟩, hci⟩, ?_⟩
    rw [List.mem_flatMap]
    refine ⟨_, (mem_cross ok hc).2 ⟨k, hk, h1, by rw [hci]; exact h2, rfl⟩, ?_⟩
    unfold seedE
    dsimp only
    rw [if_pos h3, side_step hc.2 ⟨hk.1, by omega⟩ hst]
    exact List.mem_singleton.2 rfl
/-- cell and side are those of one seed alone -/
theorem seedsO_pw {g : GridS} (ok : GridOk g) {A : Int → Int} {i : Int} (hi : IsS g.w g.h i) : (seedsO g.w g.h g.c A i).Pairwise fun x y => ¬ (x.cell = y.cell ∧ x.side = y.side) := by
  have hside : ∀ c, c ∈ nodesN g.w g.h g.c i → ∀ x, x ∈ seedC g.w g.h g.c A c → x.cell = localN g.w g.h c := by
    intro c _ x hx
    unfold seedC at hx
    obtain ⟨e, _, hx⟩ := List.mem_flatMap.1 hx
    unfold seedE at hx
    split at hx
    · rw [List.mem_singleton] at hx; rw [hx]
    · cases hx
  unfold seedsO
  rw [List.pairwise_flatMap]
  constructor
  · intro c hc
    obtain ⟨⟨hco, _⟩, hci⟩ := (mem_nodes ok hi).1 hc
    unfold seedC crossN
    rw [if_pos ((open_iff ok).2 hco.1)]
    unfold crossTo
    rw [List.flatMap_assoc, List.pairwise_flatMap]
    have hsd : ∀ j : Nat, j < 4 → ∀ x, x ∈ (if 0 ≤ overN g.w g.h c j ∧ openN g.c (overN g.w g.h c j) then [(⟨overN g.w g.h c j, costN g.c (overN g.w g.h c j)⟩ : Edg)] else []).flatMap (seedE g.w g.h A c) → x.side = j := by
      intro j hj x hx
      split at hx
      · rename_i h1
        rw [List.flatMap_cons, List.flatMap_nil, List.append_nil] at hx
        unfold seedE at hx
        dsimp only at hx
        split at hx
        · rw [List.mem_singleton, over_eq h1.1, side_step hco.2 (s := j) ⟨by omega, by omega⟩ (over_ge.1 h1.1).1] at hx
          rw [hx]
        · cases hx
      · cases hx
    constructor
    · intro j hj
      split
      · rw [List.flatMap_cons, List.flatMap_nil, List.append_nil]; unfold seedE; split <;> simp
      · simp
    · refine List.Pairwise.imp_of_mem (fun {a b} ha hb hab x hx y hy h => ?_) (List.pairwise_lt_range (n := 4))
      have h1 := hsd a (List.mem_range.1 ha) x hx
      have h2 := hsd b (List.mem_range.1 hb) y hy
      have := h.2
      omega
  · have hr := nodes_rising (c := g.c) hi
    rw [List.pairwise_iff_getElem]
    intro a b ha hb hab x hx y hy h
    have h1 := hside _ (List.getElem_mem ha) x hx
    have h2 := hside _ (List.getElem_mem hb) y hy
    have m1 := (mem_nodes ok hi).1 (List.getElem_mem ha)
    have m2 := (mem_nodes ok hi).1 (List.getElem_mem hb)
    have g1 := global_local m1.1.1.2
    have g2 := global_local m2.1.1.2
    have := hr a b ha hb hab
    rw [m1.2, ← h1, h.1, h2] at g1
    rw [m2.2] at g2
    omega
theorem seedsG_pw {g : GridS} (ok : GridOk g) {A : Int → Int} {t i : Int} (hi : IsS g.w g.h i) : (seedsG g.w g.h g.c A t i).Pairwise fun x y => ¬ (x.cell = y.cell ∧ x.side = y.side) := by
  unfold seedsG
  split
  · rw [List.pairwise_append]
    refine ⟨seedsO_pw ok hi, by simp, fun x hx y hy h => ?_⟩
    rw [List.mem_singleton] at hy
    obtain ⟨c, k, _, _, hk, _, _, _, rfl⟩ := (mem_seedsO ok hi).1 hx
    have := h.2
    rw [hy] at this
    dsimp only at this; omega
  · rw [List.append_nil]; exact seedsO_pw ok hi
theorem seedsG_nodup {g : GridS} (ok : GridOk g) {A : Int → Int} {t i : Int} (hi : IsS g.w g.h i) : (seedsG g.w g.h g.c A t i).Nodup :=
  List.Pairwise.imp (fun {x y} h e => h (by rw [e]; exact ⟨rfl, rfl⟩)) (seedsG_pw ok hi)
theorem nodes_none {w h : Int} {C : List Int} {i : Int} (hi : ¬ IsS w h i) : nodesN w h C i = [] := by
  unfold nodesN cellsN cellsTo sizeN
  rw [if_neg hi]; rfl
theorem seedsG_none {w h : Int} {C : List Int} {A : Int → Int} {t i : Int} (ht : IsC w h t) (hi : ¬ IsS w h i) : seedsG w h C A t i = [] := by
  unfold seedsG seedsO
  rw [nodes_none hi, if_neg (fun h => hi (by rw [← h.1]; exact (sector_lt ht).1))]; rfl
end Hd
end
section
namespace Hd
set_option maxRecDepth 100000
open Go
abbrev GridS.lT (s : GridS) (T : List HP) : List HP := Blk s.b 81 [.int .i64 s.w, .int .i64 s.h, s.cv, .int .i64 s.ep, s.vv] :: Sl eB s.cv s.c :: Sl eL s.vv s.vs :: T
abbrev RouteS.lT (r : RouteS) (T : List HP) : List HP := Blk r.b 84 [.int .i64 r.goal, .int .i64 r.ep, r.dv] :: Sl eW r.dv r.dist :: T

theorem where_Side (w h a b : Int) : Spec PP 44 #[.int .i64 w, .int .i64 h, .int .i64 a, .int .i64 b] [] (fun v M => v = .int .i64 (sideN w h a b) ∧ M = []) := by
  refine spec_of (Go.Proofs.Tryz.func44) rfl rfl rfl (by exact fc_enters_44) ?_
  intro g F
  try dsimp only [ca, na, GridS.l, GridS.p, RouteS.l, RouteS.p, GridS.lT, RouteS.lT]
  by_cases ha : IsC w h a
  ·skip
   refine Sq (Rg ?_)
   refine rp 1 rfl ?_
   refine Sn (Aw (Sq (Sq (Rg ?_))))
   refine rp 3 rfl ?_
   refine Wc (co_fn rfl rfl) (where_is w h a) ?_
   rintro v13 _ ⟨rfl, rfl⟩
   try dsimp only [ca, na, GridS.l, GridS.p, RouteS.l, RouteS.p, GridS.lT, RouteS.lT]
   refine Wp (po_not rfl) ?_
   refine Wp (po_bf (po_move rfl) (by simp [ha])) ?_
   refine rp 3 rfl ?_
   refine Wc (co_fn rfl rfl) (where_is w h b) ?_
   rintro v19 _ ⟨rfl, rfl⟩
   try dsimp only [ca, na, GridS.l, GridS.p, RouteS.l, RouteS.p, GridS.lT, RouteS.lT]
   refine Wp (po_not rfl) ?_
   refine rp 1 rfl ?_
   refine Sn (Aw ?_)
   refine Rc rfl ?_ ?_
   ·skip
    intro hb
    refine Sq (Rg ?_)
    refine rp 1 rfl ?_
    refine Sn (Aw (Rt (Ar ?_)))
    refine at_ret1 rfl (rv_tmp rfl) ⟨_, ⟨by rw [sideN, if_neg (fun k => hb k.2)], rfl⟩, ?_⟩
    try dsimp only [ca, na, GridS.l, GridS.p, RouteS.l, RouteS.p, GridS.lT, RouteS.lT]
    exact ent
   ·skip
    intro hb
    refine Sk (Aw (Sq (Sq (Rg ?_))))
    refine rp 1 rfl ?_
    refine Sn (Aw (Bk ?_))
    refine r_loop (S := Nat) (fun k => [(9, .int .i64 k)]) [(0, _), (1, _), (2, _), (3, _)] (fun k => [F]) (fun k => k ≤ 5 ∧ ∀ j : Nat, j < k → stepN w h a j ≠ b) (fun k => 5 - k) (0) (And.intro rfl (And.intro rfl (And.intro rfl (And.intro rfl (trivial))))) (And.intro rfl (trivial)) (⟨by omega, fun j h => by omega⟩) ent ?_
    rintro k ⟨hk, hne⟩
    try dsimp only [ca, na, GridS.l, GridS.p, RouteS.l, RouteS.p, GridS.lT, RouteS.lT]
    refine Sq (Sq (Rg ?_))
    refine rp 1 rfl ?_
    refine Wp (po_le rfl rfl) ?_
    refine Sn (Aw ?_)
    refine Rc rfl ?_ ?_
    ·skip
     intro hk4
     refine Sk (Aw (Sq (Bk (Sq (Rg ?_)))))
     refine rp 4 rfl ?_
     refine Wc (co_fn rfl rfl) (where_Step w h a k) ?_
     rintro v30 _ ⟨rfl, rfl⟩
     try dsimp only [ca, na, GridS.l, GridS.p, RouteS.l, RouteS.p, GridS.lT, RouteS.lT]
     refine rp 1 rfl ?_
     refine Wp (po_eq rfl rfl) ?_
     refine Sn (Aw ?_)
     refine Rc rfl ?_ ?_
     ·skip
      intro heq
      refine Sq (Rg ?_)
      refine rp 2 rfl ?_
      refine Sn (Aw (Rt (Br (Ar (Ar (Br (Ar ?_)))))))
      refine at_ret1 rfl (rv_tmp rfl) ⟨_, ⟨by rw [sideN, if_pos ⟨ha, hb⟩, find_first (k := k) (by omega) (decide_eq_true heq) (fun j hj => decide_eq_false (hne j hj))], rfl⟩, ?_⟩
      try dsimp only [ca, na, GridS.l, GridS.p, RouteS.l, RouteS.p, GridS.lT, RouteS.lT]
      exact ent
     ·skip
      intro heq
      refine Sk (Bn (Aw (Rg ?_)))
      refine rp 1 rfl ?_
      refine Wp (po_add' rfl rfl (by omega) (by omega)) ?_
      refine rp 1 rfl ?_
      refine Sn ?_
      exact at_again (k + 1) (And.intro rfl (trivial)) (And.intro rfl (And.intro rfl (And.intro rfl (And.intro rfl (trivial))))) (⟨by omega, fun j hj => by by_cases e : j = k; (subst e; exact heq); exact hne j (by omega)⟩) (by omega) ent
    ·skip
     intro hk4
     refine Ex' (Ax (Ax (Bh (Aw (Sq (Rg ?_))))))
     refine rp 1 rfl ?_
     refine Sn (Aw (Rt ?_))
     refine at_ret1 rfl (rv_tmp rfl) ⟨_, ⟨by rw [sideN, if_pos ⟨ha, hb⟩, find_none (fun j hj => decide_eq_false (hne j (by omega)))], rfl⟩, ?_⟩
     try dsimp only [ca, na, GridS.l, GridS.p, RouteS.l, RouteS.p, GridS.lT, RouteS.lT]
     exact ent
  ·skip
   refine Sq (Rg ?_)
   refine rp 1 rfl ?_
   refine Sn (Aw (Sq (Sq (Rg ?_))))
   refine rp 3 rfl ?_
   refine Wc (co_fn rfl rfl) (where_is w h a) ?_
   rintro v13 _ ⟨rfl, rfl⟩
   try dsimp only [ca, na, GridS.l, GridS.p, RouteS.l, RouteS.p, GridS.lT, RouteS.lT]
   refine Wp (po_not rfl) ?_
   refine Wp (po_bt (po_move rfl) (by simp [ha])) ?_
   refine rp 6 rfl ?_
   refine Sn (Aw ?_)
   refine r_cond_t rfl rfl ?_
   refine Sq (Rg ?_)
   refine rp 1 rfl ?_
   refine Sn (Aw (Rt (Ar ?_)))
   refine at_ret1 rfl (rv_tmp rfl) ⟨_, ⟨by rw [sideN, if_neg (fun k => ha k.1)], rfl⟩, ?_⟩
   try dsimp only [ca, na, GridS.l, GridS.p, RouteS.l, RouteS.p, GridS.lT, RouteS.lT]
   exact ent

theorem cross_cost {s : GridS} (ok : GridOk s) {c : Int} {e : Edg} (h : e ∈ crossN s.w s.h s.c c) : 0 ≤ e.cost ∧ e.cost ≤ 255 := by
  unfold crossN at h
  split at h
  · unfold crossTo at h
    obtain ⟨j, _, h⟩ := List.mem_flatMap.1 h
    split at h
    · rw [List.mem_singleton] at h
      rename_i ho
      have := (open_iff ok).1 ho.2
      have := opn_cost ok this
      rw [h]; dsimp only; rw [cost_opn ok (opn_isC ok ‹_›)]; omega
    · cases h
  · cases h
theorem atN_rng (r : RouteS) (hr : ∀ x ∈ r.dist, 0 ≤ x ∧ x ≤ 2147483647) (c : Int) : 0 ≤ atN r c ∧ (atN r c = 1099511627776 ∨ atN r c < 2147483647) := by
  unfold atN
  split
  · rename_i h
    have := hr _ (List.getElem_mem (show c.toNat < r.dist.length by omega))
    rw [← gAt_get] at this
    omega
  · omega
theorem inject_Seeds (s : GridS) (ok : GridOk s) (r : RouteS) (hr : ∀ x ∈ r.dist, 0 ≤ x ∧ x ≤ 2147483647) (hep : r.ep = s.ep) (ht : IsC s.w s.h r.goal) (i : Int) :
    Spec PP 16 #[s.p, r.p, .int .i64 i] (s.lT r.l) (fun v M => ∃ ys, M = s.l ++ r.l ++ [Sl eS v ys] ∧ ys.Perm (seedsG s.w s.h s.c (atN r) r.goal i) ∧ ys.Pairwise fun x y => ordI x y < 0) := by
  have hnl := nodes_len s.w s.h s.c i
  have hnd : (seedsG s.w s.h s.c (atN r) r.goal i).Nodup := by
    by_cases hi : IsS s.w s.h i
    · exact seedsG_nodup ok hi
    · rw [seedsG_none ht hi]; exact .nil
  have hGl := seedsG_len s.w s.h s.c (atN r) r.goal i
  refine spec_of (Go.Proofs.Tryz.func16) rfl rfl rfl (by exact fc_enters_16) ?_
  intro g F
  try dsimp only [ca, na, GridS.l, GridS.p, RouteS.l, RouteS.p, GridS.lT, RouteS.lT]
  refine Sq (Rg ?_)
  refine rp 1 rfl ?_
  refine Sn (Aw (Sq (Rg ?_)))
  refine rp 1 rfl ?_
  refine Wc (co_fn rfl rfl) (grid_Size s) ?_
  rintro v18 _ ⟨rfl, rfl⟩
  try dsimp only [ca, na, GridS.l, GridS.p, RouteS.l, RouteS.p, GridS.lT, RouteS.lT]
  refine rp 5 rfl ?_
  refine Sn (Aw (Sq (Sq (Rg ?_))))
  refine rp 1 rfl ?_
  refine Wp (po_peq rfl rfl (by exact fc_ptr_28)) ?_
  refine Wp (po_bf (po_move rfl) (rfl)) ?_
  refine rp 1 rfl ?_
  refine Wc (co_fn rfl rfl) (route_Epoch r) ?_
  rintro v25 _ ⟨rfl, rfl⟩
  try dsimp only [ca, na, GridS.l, GridS.p, RouteS.l, RouteS.p, GridS.lT, RouteS.lT]
  refine rp 1 rfl ?_
  refine Wc (co_fn rfl rfl) (grid_Epoch s) ?_
  rintro v27 _ ⟨rfl, rfl⟩
  try dsimp only [ca, na, GridS.l, GridS.p, RouteS.l, RouteS.p, GridS.lT, RouteS.lT]
  refine Wp (po_ne rfl rfl) ?_
  refine rp 1 rfl ?_
  refine Sn (Aw ?_)
  first | refine r_dec_f rfl (by simp [hep]) ?_ | refine r_nd_f rfl (by simp [hep]) ?_ | refine r_cond_f rfl (by simp [hep]) ?_
  refine Sk (Aw (Sq (Rg ?_)))
  refine rp 1 rfl ?_
  refine Sn (Aw (Sq (Sq (Rg ?_))))
  refine rp 2 rfl ?_
  refine Wc (co_fn rfl rfl) (border_Nodes s i ok.bytes) ?_
  rintro v32 _ rfl
  try dsimp only [ca, na, GridS.l, GridS.p, RouteS.l, RouteS.p, GridS.lT, RouteS.lT]
  refine Wp (po_len rfl (by exact fc_slice_35_3_1)) ?_
  refine rp 1 rfl ?_
  refine Sn (Aw (Bk ?_))
  refine r_loop (S := Nat × Value × List Seed) (fun ⟨k, ov, xs⟩ => [(9, ov), (34, .int .i64 k)]) [(0, _), (1, _), (2, _), (7, _), (8, _), (32, _), (33, _)] (fun ⟨k, ov, xs⟩ => Sl eI v32 (nodesN s.w s.h s.c i) :: Sl eS ov xs :: s.lT (r.lT [F])) (fun ⟨k, ov, xs⟩ => k ≤ (nodesN s.w s.h s.c i).length ∧ xs = ((nodesN s.w s.h s.c i).take k).flatMap (seedC s.w s.h s.c (atN r))) (fun ⟨k, ov, xs⟩ => (nodesN s.w s.h s.c i).length - k) ((0, .slice none 0 0, [])) (And.intro rfl (And.intro rfl (And.intro rfl (And.intro rfl (And.intro rfl (And.intro rfl (And.intro rfl (trivial)))))))) (And.intro rfl (And.intro rfl (trivial))) (⟨by omega, rfl⟩) ent ?_
  rintro ⟨k, ov, xs⟩ ⟨hk, hxs⟩
  try dsimp only [ca, na, GridS.l, GridS.p, RouteS.l, RouteS.p, GridS.lT, RouteS.lT]
  refine Sq (Rg ?_)
  refine Wp (po_lt rfl rfl) ?_
  refine Sn (Aw (Sq ?_))
  refine Rc rfl ?_ ?_
  ·skip
   intro hlt
   have hkl : k < (nodesN s.w s.h s.c i).length := by omega
   obtain ⟨c, hce⟩ : ∃ c, (nodesN s.w s.h s.c i)[(k : Int).toNat]'(by omega) = c := ⟨_, rfl⟩
   have hce' : (nodesN s.w s.h s.c i)[k] = c := hce
   have hxl : xs.length ≤ 4 * k := by rw [hxs]; have := flat_le (seedC s.w s.h s.c (atN r)) 4 (seedC_len s.w s.h s.c (atN r)) ((nodesN s.w s.h s.c i).take k); rw [List.length_take] at this; omega
   refine Sk (Aw (Sq (Bk (Sq (Rg ?_)))))
   refine Wp (po_iaddr rfl rfl (by exact fc_slice_35_3_1) (by first | omega | (simp <;> omega)) (by first | omega | (simp <;> omega))) ?_
   refine Wp (po_load_sl rfl (List.getElem?_eq_getElem (by first | omega | (simp <;> omega))) (by exact fc_flat_3) (by rfl)) ?_
   refine rp 1 rfl ?_
   refine Sn (Aw (Sq ?_))
   rw [hce]
   refine Rg ?_
   refine rp 2 rfl ?_
   refine Wc (co_fn rfl rfl) (border_Cross s c ok.bytes) ?_
   rintro v40 _ rfl
   try dsimp only [ca, na, GridS.l, GridS.p, RouteS.l, RouteS.p, GridS.lT, RouteS.lT]
   have hcl := crossN_len s.w s.h s.c c
   refine Wp (po_len rfl (by exact fc_slice_73_76_2)) ?_
   refine rp 1 rfl ?_
   refine Sn (Aw (Bk ?_))
   refine r_loop (S := Nat × Value × List Seed) (fun ⟨j, ov, zs⟩ => [(9, ov), (42, .int .i64 j)]) [(0, _), (1, _), (2, _), (7, _), (8, _), (11, _), (32, _), (33, _), (34, _), (40, _), (41, _)] (fun ⟨j, ov, zs⟩ => Sl eI v32 (nodesN s.w s.h s.c i) :: Sl eE v40 (crossN s.w s.h s.c c) :: Sl eS ov zs :: s.lT (r.lT [F])) (fun ⟨j, ov, zs⟩ => j ≤ (crossN s.w s.h s.c c).length ∧ zs = xs ++ ((crossN s.w s.h s.c c).take j).flatMap (seedE s.w s.h (atN r) c)) (fun ⟨j, ov, zs⟩ => (crossN s.w s.h s.c c).length - j) ((0, ov, xs)) (And.intro rfl (And.intro rfl (And.intro rfl (And.intro rfl (And.intro rfl (And.intro rfl (And.intro rfl (And.intro rfl (And.intro rfl (And.intro rfl (And.intro rfl (trivial)))))))))))) (And.intro rfl (And.intro rfl (trivial))) (⟨by omega, by simp⟩) ent ?_
   rintro ⟨j, ov, zs⟩ ⟨hj, hzs⟩
   try dsimp only [ca, na, GridS.l, GridS.p, RouteS.l, RouteS.p, GridS.lT, RouteS.lT]
   refine Sq (Rg ?_)
   refine Wp (po_lt rfl rfl) ?_
   refine Sn (Aw (Sq ?_))
   refine Rc rfl ?_ ?_
   ·skip
    intro hlt2
    have hjl : j < (crossN s.w s.h s.c c).length := by omega
    obtain ⟨e, hee⟩ : ∃ e, (crossN s.w s.h s.c c)[(j : Int).toNat]'(by omega) = e := ⟨_, rfl⟩
    have hee' : (crossN s.w s.h s.c c)[j] = e := hee
    have hzl : zs.length ≤ xs.length + j := by rw [hzs, List.length_append]; have := flat_le (seedE s.w s.h (atN r) c) 1 (seedE_len s.w s.h (atN r) c) ((crossN s.w s.h s.c c).take j); rw [List.length_take] at this; omega
    have hec : 0 ≤ e.cost ∧ e.cost ≤ 255 := cross_cost ok (c := c) (hee' ▸ List.getElem_mem hjl)
    have hat := atN_rng r hr e.to
    have hI : INF = 1099511627776 := rfl
    refine Sk (Aw ?_)
    refine r_joink (S := Value × List Seed) (fun ⟨ov, zs2⟩ => [(9, ov)]) [(0, _), (1, _), (2, _), (7, _), (8, _), (11, _), (32, _), (33, _), (34, _), (40, _), (41, _), (42, _)] (fun ⟨ov, zs2⟩ => Sl eI v32 (nodesN s.w s.h s.c i) :: Sl eE v40 (crossN s.w s.h s.c c) :: Sl eS ov zs2 :: s.lT (r.lT [F])) (fun ⟨ov, zs2⟩ => zs2 = zs ++ seedE s.w s.h (atN r) c e) (And.intro rfl (And.intro rfl (And.intro rfl (And.intro rfl (And.intro rfl (And.intro rfl (And.intro rfl (And.intro rfl (And.intro rfl (And.intro rfl (And.intro rfl (And.intro rfl (trivial))))))))))))) ?_ ?_
    ·skip
     refine Bk (Sq (Rg ?_))
     refine Wp (po_iaddr rfl rfl (by exact fc_slice_73_76_2) (by first | omega | (simp <;> omega)) (by first | omega | (simp <;> omega))) ?_
     refine Wp (ld_eE rfl (List.getElem?_eq_getElem (by first | omega | (simp <;> omega))) (by exact fc_agg_76_2)) ?_
     refine Wx (xo_alloc (by exact fc_zero_76)) ?_
     rintro _ _ ⟨b13, rfl, rfl⟩
     refine Ws (so_storea1 rfl rfl (by exact fc_agg_76_2) rfl rfl) ?_
     refine Sn (Aw (Sq ?_))
     rw [hee]
     refine Rg ?_
     refine rp 1 rfl ?_
     refine Wp (po_faddr rfl (by exact fc_field_76_0_0)) ?_
     refine Wp (po_load rfl (by exact fc_flat_3) (by rfl)) ?_
     refine Wc (co_fn rfl rfl) (route_At r e.to hr) ?_
     rintro v49 _ ⟨rfl, rfl⟩
     try dsimp only [ca, na, GridS.l, GridS.p, RouteS.l, RouteS.p, GridS.lT, RouteS.lT]
     refine rp 1 rfl ?_
     refine Sn (Aw (Sq (Rg ?_)))
     refine rp 1 rfl ?_
     refine Wp (po_ne rfl rfl) ?_
     refine Sn (Aw ?_)
     refine Rc rfl ?_ ?_
     ·skip
      intro hne
      refine r_tree [17] _ 19 fc_mixed (by kernel_rfl) (fun _ h => h) ?_
      refine t_fr (i := 0) (by kernel_rfl) rfl (po_move rfl) rfl rfl rfl ?_
      refine t_fr (i := 1) (by kernel_rfl) rfl (po_move rfl) rfl rfl rfl ?_
      refine t_fr (i := 2) (by kernel_rfl) rfl (po_move rfl) rfl rfl rfl ?_
      refine t_fr (i := 3) (by kernel_rfl) rfl (po_move rfl) rfl rfl rfl ?_
      refine t_fr (i := 5) (by kernel_rfl) rfl (po_move rfl) rfl rfl rfl ?_
      refine t_fr (i := 6) (by kernel_rfl) rfl (po_move rfl) rfl rfl rfl ?_
      refine t_fr (i := 7) (by kernel_rfl) rfl (po_move rfl) rfl rfl rfl ?_
      refine t_fr (i := 8) (by kernel_rfl) rfl (po_faddr rfl (by exact fc_field_76_0_0)) rfl rfl rfl ?_
      refine t_rd (i := 9) (by kernel_rfl) rfl (po_load rfl (by exact fc_flat_3) (by rfl)) (by first | exact fun _ h => h | exact ent) rfl rfl rfl ?_
      refine t_fr (i := 11) (by kernel_rfl) rfl (po_faddr rfl (by exact fc_field_76_1_1)) rfl rfl rfl ?_
      refine t_rd (i := 12) (by kernel_rfl) rfl (po_load rfl (by exact fc_flat_3) (by rfl)) (by first | exact fun _ h => h | exact ent) rfl rfl rfl ?_
      refine t_fr (i := 13) (by kernel_rfl) rfl (po_move rfl) rfl rfl rfl ?_
      refine t_fr (i := 14) (by kernel_rfl) rfl (po_add' rfl rfl (by omega) (by omega)) rfl rfl rfl ?_
      refine t_st (i := 4) (by kernel_rfl) rfl (st_call (co_fn rfl rfl) (where_Local s.w s.h c) (by infer_instance) rfl rfl rfl ?_)
      rintro v56 _ ⟨rfl, rfl⟩
      try dsimp only [ca, na, GridS.l, GridS.p, RouteS.l, RouteS.p, GridS.lT, RouteS.lT]
      refine ⟨fun _ => (by first | exact fun _ h => h | exact ent), ?_⟩
      refine t_st (i := 10) (by kernel_rfl) rfl (st_call (co_fn rfl rfl) (where_Side s.w s.h c e.to) (by infer_instance) rfl rfl rfl ?_)
      rintro v62 _ ⟨rfl, rfl⟩
      try dsimp only [ca, na, GridS.l, GridS.p, RouteS.l, RouteS.p, GridS.lT, RouteS.lT]
      refine ⟨fun _ => (by first | exact fun _ h => h | exact ent), ?_⟩
      refine t_st (i := 15) (by kernel_rfl) rfl (st_po (po_build1 rfl (by exact fc_zero_45) (by exact fc_places_45_0_1_2) (by exact fc_info_45) rfl) rfl rfl rfl ?_)
      refine ⟨fun _ => (by first | exact fun _ h => h | exact ent), ?_⟩
      refine t_st (i := 16) (by kernel_rfl) rfl (st_xo (xo_bslice eS [⟨localN s.w s.h c, sideN s.w s.h c e.to, e.cost + atN r e.to⟩] rfl (by exact fc_slice_32_45_3) (by exact fc_elem_45_3_24) ⟨rfl, rfl, trivial⟩ rfl (by decide)) rfl rfl rfl ?_)
      rintro v68 _ rfl
      refine ⟨fun _ => (by first | exact fun _ h => h | exact ent), ?_⟩
      refine t_st (i := 17) (by kernel_rfl) rfl (st_xo (xo_append rfl rfl (by exact fc_slice_32_45_3) (by exact fc_slice_32_45_3) (by exact fc_elem_45_3_24) (by first | omega | (simp <;> omega)) (by first | omega | (simp <;> omega))) rfl rfl rfl ?_)
      rintro v69 _ rfl
      refine ⟨fun h => late_no h (by kernel_rfl), ?_⟩
      refine t_fr (i := 18) (by kernel_rfl) rfl (po_assign rfl) rfl rfl rfl ?_
      refine t_nil (by kernel_rfl) ?_
      refine Bn ?_
      exact at_join ((v69, zs ++ [⟨localN s.w s.h c, sideN s.w s.h c e.to, e.cost + atN r e.to⟩])) (And.intro rfl (trivial)) (And.intro rfl (And.intro rfl (And.intro rfl (And.intro rfl (And.intro rfl (And.intro rfl (And.intro rfl (And.intro rfl (And.intro rfl (And.intro rfl (And.intro rfl (And.intro rfl (trivial))))))))))))) (by rw [seedE, if_pos hne]) ent
     ·skip
      intro hne
      refine Sk (Bn ?_)
      exact at_join ((ov, zs)) (And.intro rfl (trivial)) (And.intro rfl (And.intro rfl (And.intro rfl (And.intro rfl (And.intro rfl (And.intro rfl (And.intro rfl (And.intro rfl (And.intro rfl (And.intro rfl (And.intro rfl (And.intro rfl (trivial))))))))))))) (by rw [seedE, if_neg hne, List.append_nil]) ent
    ·skip
     rintro ⟨ov, zs2⟩ hz2
     try dsimp only [ca, na, GridS.l, GridS.p, RouteS.l, RouteS.p, GridS.lT, RouteS.lT]
     refine Rg ?_
     refine Wp (po_add' rfl rfl (by omega) (by omega)) ?_
     refine rp 1 rfl ?_
     refine Sn ?_
     exact at_again ((j + 1, ov, zs2)) (And.intro rfl (And.intro rfl (trivial))) (And.intro rfl (And.intro rfl (And.intro rfl (And.intro rfl (And.intro rfl (And.intro rfl (And.intro rfl (And.intro rfl (And.intro rfl (And.intro rfl (And.intro rfl (trivial)))))))))))) (⟨by omega, by rw [hz2, hzs, flat_snoc _ _ _ hjl, hee', List.append_assoc]⟩) (by omega) ent
   ·skip
    intro hlt2
    refine Ex' (Ax (Ax (Bh (Bn (Aw (Rg ?_))))))
    refine Wp (po_add' rfl rfl (by omega) (by omega)) ?_
    refine rp 1 rfl ?_
    refine Sn ?_
    exact at_again ((k + 1, ov, zs)) (And.intro rfl (And.intro rfl (trivial))) (And.intro rfl (And.intro rfl (And.intro rfl (And.intro rfl (And.intro rfl (And.intro rfl (And.intro rfl (trivial)))))))) (⟨by omega, by rw [hzs, flat_snoc _ _ _ hkl, hce', ← hxs, List.take_of_length_le (by omega)]; rfl⟩) (by omega) ent
  ·skip
   intro hlt
   have hxs : xs = seedsO s.w s.h s.c (atN r) i := by rw [hxs, List.take_of_length_le (by omega)]; rfl
   have hxl := seedsO_len s.w s.h s.c (atN r) i
   rw [← hxs] at hxl
   refine Ex' (Ax (Ax (Bh (Aw (Sq (Sq (Rg ?_)))))))
   refine rp 1 rfl ?_
   refine Wc (co_fn rfl rfl) (route_Goal r) ?_
   rintro v73 _ ⟨rfl, rfl⟩
   try dsimp only [ca, na, GridS.l, GridS.p, RouteS.l, RouteS.p, GridS.lT, RouteS.lT]
   refine rp 1 rfl ?_
   refine Sn (Aw (Sq (Rg ?_)))
   refine rp 3 rfl ?_
   refine Wc (co_fn rfl rfl) (where_Sector s.w s.h r.goal) ?_
   rintro v77 _ ⟨rfl, rfl⟩
   try dsimp only [ca, na, GridS.l, GridS.p, RouteS.l, RouteS.p, GridS.lT, RouteS.lT]
   refine rp 1 rfl ?_
   refine Wp (po_eq rfl rfl) ?_
   by_cases hse : sectorN s.w s.h r.goal = i
   ·skip
    refine ws (st_po (po_bt (po_move rfl) (decide_eq_true hse)) rfl rfl rfl ?_)
    refine rp 2 rfl ?_
    refine Wc (co_fn rfl rfl) (grid_Cost s r.goal ok.bytes) ?_
    rintro v83 _ ⟨rfl, rfl⟩
    try dsimp only [ca, na, GridS.l, GridS.p, RouteS.l, RouteS.p, GridS.lT, RouteS.lT]
    refine Wp (po_ne rfl rfl) ?_
    refine rp 1 rfl ?_
    refine Sn (Aw ?_)
    refine Rc rfl ?_ ?_
    ·skip
     intro hco
     refine Rg ?_
     refine rp 4 rfl ?_
     refine Wc (co_fn rfl rfl) (where_Local s.w s.h r.goal) ?_
     rintro v90 _ ⟨rfl, rfl⟩
     try dsimp only [ca, na, GridS.l, GridS.p, RouteS.l, RouteS.p, GridS.lT, RouteS.lT]
     have he : xs ++ [⟨localN s.w s.h r.goal, 4, 0⟩] = seedsG s.w s.h s.c (atN r) r.goal i := by rw [seedsG, if_pos ⟨hse, hco⟩, hxs]
     refine Wp (po_build1 rfl (by exact fc_zero_45) (by exact fc_places_45_0_1) (by exact fc_info_45) rfl) ?_
     refine Wx (xo_bslice eS [⟨localN s.w s.h r.goal, 4, 0⟩] rfl (by exact fc_slice_32_45_3) (by exact fc_elem_45_3_24) ⟨rfl, rfl, trivial⟩ rfl (by decide)) ?_
     rintro v92 _ rfl
     refine Wx (xo_append rfl rfl (by exact fc_slice_32_45_3) (by exact fc_slice_32_45_3) (by exact fc_elem_45_3_24) (by first | omega | (simp <;> omega)) (by first | omega | (simp <;> omega))) ?_
     rintro v93 _ rfl
     refine rp 1 rfl ?_
     refine Sn (Aw (Sq (Rg ?_)))
     refine rp 1 rfl ?_
     refine Wc (co_fn rfl rfl) (seeds_Sort v93 (xs ++ [⟨localN s.w s.h r.goal, 4, 0⟩]) (by rw [he]; exact hnd) (by rw [he]; omega)) ?_
     rintro v95 _ ⟨ys, rfl, hp, hs⟩
     try dsimp only [ca, na, GridS.l, GridS.p, RouteS.l, RouteS.p, GridS.lT, RouteS.lT]
     refine rp 1 rfl ?_
     refine Sn (Aw (Rt ?_))
     refine at_ret1 rfl (rv_tmp rfl) ⟨_, ⟨ys, rfl, by rw [← he]; exact hp, hs⟩, ?_⟩
     try dsimp only [ca, na, GridS.l, GridS.p, RouteS.l, RouteS.p, GridS.lT, RouteS.lT]
     exact ent
    ·skip
     intro hco
     have he : xs = seedsG s.w s.h s.c (atN r) r.goal i := by rw [seedsG, if_neg (fun h => hco h.2), List.append_nil, hxs]
     refine Sk (Aw (Sq (Rg ?_)))
     refine rp 1 rfl ?_
     refine Wc (co_fn rfl rfl) (seeds_Sort ov xs (by rw [he]; exact hnd) (by rw [he]; omega)) ?_
     rintro v95 _ ⟨ys, rfl, hp, hs⟩
     try dsimp only [ca, na, GridS.l, GridS.p, RouteS.l, RouteS.p, GridS.lT, RouteS.lT]
     refine rp 1 rfl ?_
     refine Sn (Aw (Rt ?_))
     refine at_ret1 rfl (rv_tmp rfl) ⟨_, ⟨ys, rfl, by rw [← he]; exact hp, hs⟩, ?_⟩
     try dsimp only [ca, na, GridS.l, GridS.p, RouteS.l, RouteS.p, GridS.lT, RouteS.lT]
     exact ent
   ·skip
    refine ws (st_po (po_bf (po_move rfl) (decide_eq_false hse)) rfl rfl rfl ?_)
    have he : xs = seedsG s.w s.h s.c (atN r) r.goal i := by rw [seedsG, if_neg (fun h => hse h.1), List.append_nil, hxs]
    refine rp 5 rfl ?_
    refine Sn (Aw ?_)
    refine r_cond_f rfl rfl ?_
    refine Sk (Aw (Sq (Rg ?_)))
    refine rp 1 rfl ?_
    refine Wc (co_fn rfl rfl) (seeds_Sort ov xs (by rw [he]; exact hnd) (by rw [he]; omega)) ?_
    rintro v95 _ ⟨ys, rfl, hp, hs⟩
    try dsimp only [ca, na, GridS.l, GridS.p, RouteS.l, RouteS.p, GridS.lT, RouteS.lT]
    refine rp 1 rfl ?_
    refine Sn (Aw (Rt ?_))
    refine at_ret1 rfl (rv_tmp rfl) ⟨_, ⟨ys, rfl, by rw [← he]; exact hp, hs⟩, ?_⟩
    try dsimp only [ca, na, GridS.l, GridS.p, RouteS.l, RouteS.p, GridS.lT, RouteS.lT]
    exact ent
theorem inject_Seeds_ep (s : GridS) (r : RouteS) (hep : r.ep ≠ s.ep) (i : Int) : Spec PP 16 #[s.p, r.p, .int .i64 i] (s.lT r.l) (fun v M => v = .slice none 0 0 ∧ M = Sl eS (.slice none 0 0) [] :: (s.l ++ r.l)) := by
  refine spec_of (Go.Proofs.Tryz.func16) rfl rfl rfl (by exact fc_enters_16) ?_
  intro g F
  try dsimp only [ca, na, GridS.l, GridS.p, RouteS.l, RouteS.p, GridS.lT, RouteS.lT]
  refine Sq (Rg ?_)
  refine rp 1 rfl ?_
  refine Sn (Aw (Sq (Rg ?_)))
  refine rp 1 rfl ?_
  refine Wc (co_fn rfl rfl) (grid_Size s) ?_
  rintro v18 _ ⟨rfl, rfl⟩
  try dsimp only [ca, na, GridS.l, GridS.p, RouteS.l, RouteS.p, GridS.lT, RouteS.lT]
  refine rp 5 rfl ?_
  refine Sn (Aw (Sq (Sq (Rg ?_))))
  refine rp 1 rfl ?_
  refine Wp (po_peq rfl rfl (by exact fc_ptr_28)) ?_
  refine Wp (po_bf (po_move rfl) (rfl)) ?_
  refine rp 1 rfl ?_
  refine Wc (co_fn rfl rfl) (route_Epoch r) ?_
  rintro v25 _ ⟨rfl, rfl⟩
  try dsimp only [ca, na, GridS.l, GridS.p, RouteS.l, RouteS.p, GridS.lT, RouteS.lT]
  refine rp 1 rfl ?_
  refine Wc (co_fn rfl rfl) (grid_Epoch s) ?_
  rintro v27 _ ⟨rfl, rfl⟩
  try dsimp only [ca, na, GridS.l, GridS.p, RouteS.l, RouteS.p, GridS.lT, RouteS.lT]
  refine Wp (po_ne rfl rfl) ?_
  refine rp 1 rfl ?_
  refine Sn (Aw ?_)
  first | refine r_dec_t rfl (hep) ?_ | refine r_nd_t rfl (hep) ?_ | refine r_cond_t rfl (hep) ?_
  refine Sq (Rg ?_)
  refine rp 1 rfl ?_
  refine Sn (Aw (Rt (Ar ?_)))
  refine at_ret1 rfl (rv_tmp rfl) ⟨_, ⟨rfl, rfl⟩, ?_⟩
  try dsimp only [ca, na, GridS.l, GridS.p, RouteS.l, RouteS.p, GridS.lT, RouteS.lT]
  exact ent
theorem inject_Seeds_g (r : RouteS) (hep : r.ep ≠ 0) (i : Int) : Spec PP 16 #[.pointer none, r.p, .int .i64 i] r.l (fun v M => v = .slice none 0 0 ∧ M = Sl eS (.slice none 0 0) [] :: r.l) := by
  refine spec_of (Go.Proofs.Tryz.func16) rfl rfl rfl (by exact fc_enters_16) ?_
  intro g F
  try dsimp only [ca, na, GridS.l, GridS.p, RouteS.l, RouteS.p, GridS.lT, RouteS.lT]
  refine Sq (Rg ?_)
  refine rp 1 rfl ?_
  refine Sn (Aw (Sq (Rg ?_)))
  refine rp 1 rfl ?_
  refine Wc (co_fn rfl rfl) (grid_Size0) ?_
  rintro v18 _ ⟨rfl, rfl⟩
  try dsimp only [ca, na, GridS.l, GridS.p, RouteS.l, RouteS.p, GridS.lT, RouteS.lT]
  refine rp 5 rfl ?_
  refine Sn (Aw (Sq (Sq (Rg ?_))))
  refine rp 1 rfl ?_
  refine Wp (po_peq rfl rfl (by exact fc_ptr_28)) ?_
  refine Wp (po_bf (po_move rfl) (rfl)) ?_
  refine rp 1 rfl ?_
  refine Wc (co_fn rfl rfl) (route_Epoch r) ?_
  rintro v25 _ ⟨rfl, rfl⟩
  try dsimp only [ca, na, GridS.l, GridS.p, RouteS.l, RouteS.p, GridS.lT, RouteS.lT]
  refine rp 1 rfl ?_
  refine Wc (co_fn rfl rfl) (grid_Epoch0) ?_
  rintro v27 _ ⟨rfl, rfl⟩
  try dsimp only [ca, na, GridS.l, GridS.p, RouteS.l, RouteS.p, GridS.lT, RouteS.lT]
  refine Wp (po_ne rfl rfl) ?_
  refine rp 1 rfl ?_
  refine Sn (Aw ?_)
  first | refine r_dec_t rfl (hep) ?_ | refine r_nd_t rfl (hep) ?_ | refine r_cond_t rfl (hep) ?_
  refine Sq (Rg ?_)
  refine rp 1 rfl ?_
  refine Sn (Aw (Rt (Ar ?_)))
  refine at_ret1 rfl (rv_tmp rfl) ⟨_, ⟨rfl, rfl⟩, ?_⟩
  try dsimp only [ca, na, GridS.l, GridS.p, RouteS.l, RouteS.p, GridS.lT, RouteS.lT]
  exact ent
theorem inject_Seeds_r (s : GridS) (i : Int) : Spec PP 16 #[s.p, .pointer none, .int .i64 i] s.l (fun v M => v = .slice none 0 0 ∧ M = Sl eS (.slice none 0 0) [] :: s.l) := by
  refine spec_of (Go.Proofs.Tryz.func16) rfl rfl rfl (by exact fc_enters_16) ?_
  intro g F
  try dsimp only [ca, na, GridS.l, GridS.p, RouteS.l, RouteS.p, GridS.lT, RouteS.lT]
  refine Sq (Rg ?_)
  refine rp 1 rfl ?_
  refine Sn (Aw (Sq (Rg ?_)))
  refine rp 1 rfl ?_
  refine Wc (co_fn rfl rfl) (grid_Size s) ?_
  rintro v18 _ ⟨rfl, rfl⟩
  try dsimp only [ca, na, GridS.l, GridS.p, RouteS.l, RouteS.p, GridS.lT, RouteS.lT]
  refine rp 5 rfl ?_
  refine Sn (Aw (Sq (Sq (Rg ?_))))
  refine rp 1 rfl ?_
  refine Wp (po_peq rfl rfl (by exact fc_ptr_28)) ?_
  refine Wp (po_bt (po_move rfl) (rfl)) ?_
  refine rp 6 rfl ?_
  refine Sn (Aw ?_)
  refine r_cond_t rfl rfl ?_
  refine Sq (Rg ?_)
  refine rp 1 rfl ?_
  refine Sn (Aw (Rt (Ar ?_)))
  refine at_ret1 rfl (rv_tmp rfl) ⟨_, ⟨rfl, rfl⟩, ?_⟩
  try dsimp only [ca, na, GridS.l, GridS.p, RouteS.l, RouteS.p, GridS.lT, RouteS.lT]
  exact ent
end Hd
end
section
namespace Hd
set_option maxRecDepth 100000
open Go

theorem ref_In (n lo hi : Int) : Spec PP 11 #[.int .i64 n, .int .i64 lo, .int .i64 hi] [] (fun v M => v = .bool (decide (lo ≤ n ∧ n ≤ hi)) ∧ M = []) := by
  refine spec_of (Go.Proofs.Tryz.func11) rfl rfl rfl (by exact fc_enters_11) ?_
  intro g F
  try dsimp only [ca, na]
  refine Sq (Rg ?_)
  refine rp 1 rfl ?_
  refine Sn (Aw (Sq (Rg ?_)))
  refine rp 2 rfl ?_
  refine Wp (po_ge rfl rfl) ?_
  by_cases h1 : lo ≤ n
  ·skip
   refine ws (st_po (po_bt (po_move rfl) (decide_eq_true h1)) rfl rfl rfl ?_)
   refine rp 2 rfl ?_
   refine Wp (po_le rfl rfl) ?_
   refine rp 2 rfl ?_
   refine Sn (Aw (Rt ?_))
   refine at_ret1 rfl (rv_tmp rfl) ⟨_, ⟨by simp [h1], rfl⟩, ?_⟩
   try dsimp only [ca, na]
   exact ent
  ·skip
   refine ws (st_po (po_bf (po_move rfl) (decide_eq_false h1)) rfl rfl rfl ?_)
   refine rp 5 rfl ?_
   refine Sn (Aw (Rt ?_))
   refine at_ret1 rfl (rv_tmp rfl) ⟨_, ⟨by simp [h1], rfl⟩, ?_⟩
   try dsimp only [ca, na]
   exact ent
theorem ref_Within (n lo hi : Int) (h0 : 0 ≤ lo + 2147483648) (h1 : lo ≤ hi) (h2 : hi ≤ 2147483648) : Spec PP 8 #[.int .i64 n, .int .i64 lo, .int .i64 hi] [] (fun v M => v = .int .i64 (lo + n % (hi - lo + 1)) ∧ M = []) := by
  obtain ⟨t1, t2, t3, t4⟩ := tmod_emod (p := n) (q := hi - lo + 1) (by omega)
  refine spec_of (Go.Proofs.Tryz.func8) rfl rfl rfl (by exact fc_enters_8) ?_
  intro g F
  try dsimp only [ca, na]
  refine Sq (Rg ?_)
  refine rp 1 rfl ?_
  refine Sn (Aw (Sq (Rg ?_)))
  refine rp 3 rfl ?_
  refine Wp (po_sub' rfl rfl (by omega) (by omega)) ?_
  refine Wp (po_add' rfl rfl (by omega) (by omega)) ?_
  refine Wp (po_rem_t rfl rfl (by omega)) ?_
  refine rp 1 rfl ?_
  refine Sn (Aw (Sq (Sq (Rg ?_))))
  refine rp 1 rfl ?_
  refine Wp (po_lt rfl rfl) ?_
  refine Sn (Aw ?_)
  refine Rc rfl ?_ ?_
  ·skip
   intro hn
   refine Rg ?_
   refine rp 2 rfl ?_
   refine Wp (po_add' rfl rfl (by omega) (by omega)) ?_
   refine rp 1 rfl ?_
   refine Wp (po_sub' rfl rfl (by omega) (by omega)) ?_
   refine Wp (po_add' rfl rfl (by omega) (by omega)) ?_
   refine rp 1 rfl ?_
   refine Sn (Aw (Sq (Rg ?_)))
   refine rp 2 rfl ?_
   refine Wp (po_add' rfl rfl (by omega) (by omega)) ?_
   refine rp 1 rfl ?_
   refine Sn (Aw (Rt ?_))
   refine at_ret1 rfl (rv_tmp rfl) ⟨_, ⟨by rw [t1 hn]; congr 2; omega, rfl⟩, ?_⟩
   try dsimp only [ca, na]
   exact ent
  ·skip
   intro hn
   refine Sk (Aw (Sq (Rg ?_)))
   refine rp 2 rfl ?_
   refine Wp (po_add' rfl rfl (by omega) (by omega)) ?_
   refine rp 1 rfl ?_
   refine Sn (Aw (Rt ?_))
   refine at_ret1 rfl (rv_tmp rfl) ⟨_, ⟨by rw [t2 (by omega)], rfl⟩, ?_⟩
   try dsimp only [ca, na]
   exact ent
theorem ref_May (w h : Int) : Spec PP 65 #[.int .i64 w, .int .i64 h] [] (fun v M => v = .bool (decide (May w h)) ∧ M = []) := by
  refine spec_of (Go.Proofs.Tryz.func65) rfl rfl rfl (by exact fc_enters_65) ?_
  intro g F
  try dsimp only [ca, na]
  refine Sq (Rg ?_)
  refine rp 1 rfl ?_
  refine Sn (Aw (Sq (Rg ?_)))
  refine rp 1 rfl ?_
  refine Wc (co_fn rfl rfl) (ref_In w 1 1024) ?_
  rintro v6 _ ⟨rfl, rfl⟩
  try dsimp only [ca, na]
  by_cases h1 : 1 ≤ w ∧ w ≤ 1024
  ·skip
   refine ws (st_po (po_bt (po_move rfl) (decide_eq_true h1)) rfl rfl rfl ?_)
   refine rp 1 rfl ?_
   refine Wc (co_fn rfl rfl) (ref_In h 1 1024) ?_
   rintro v9 _ ⟨rfl, rfl⟩
   try dsimp only [ca, na]
   refine rp 2 rfl ?_
   refine Sn (Aw (Rt ?_))
   refine at_ret1 rfl (rv_tmp rfl) ⟨_, ⟨by simp [May, h1], rfl⟩, ?_⟩
   try dsimp only [ca, na]
   exact ent
  ·skip
   refine ws (st_po (po_bf (po_move rfl) (decide_eq_false h1)) rfl rfl rfl ?_)
   refine rp 4 rfl ?_
   refine Sn (Aw (Rt ?_))
   refine at_ret1 rfl (rv_tmp rfl) ⟨_, ⟨by simp only [May, h1, false_and, decide_false], rfl⟩, ?_⟩
   try dsimp only [ca, na]
   exact ent
theorem ref_IsCell (w h c : Int) : Spec PP 52 #[.int .i64 w, .int .i64 h, .int .i64 c] [] (fun v M => v = .bool (decide (IsC w h c)) ∧ M = []) := by
  refine spec_of (Go.Proofs.Tryz.func52) rfl rfl rfl (by exact fc_enters_52) ?_
  intro g F
  try dsimp only [ca, na]
  refine Sq (Rg ?_)
  refine rp 1 rfl ?_
  refine Sn (Aw (Sq (Rg ?_)))
  refine rp 2 rfl ?_
  refine Wc (co_fn rfl rfl) (ref_May w h) ?_
  rintro v9 _ ⟨rfl, rfl⟩
  try dsimp only [ca, na]
  by_cases hm : May w h
  ·skip
   refine ws (st_po (po_bt (po_move rfl) (decide_eq_true hm)) rfl rfl rfl ?_)
   have hb := may_mul hm
   refine rp 3 rfl ?_
   refine Wp (po_mul' rfl rfl (by omega) (by omega)) ?_
   refine Wp (po_sub' rfl rfl (by omega) (by omega)) ?_
   refine Wc (co_fn rfl rfl) (ref_In c 0 (w * h - 1)) ?_
   rintro v16 _ ⟨rfl, rfl⟩
   try dsimp only [ca, na]
   refine rp 2 rfl ?_
   refine Sn (Aw (Rt ?_))
   refine at_ret1 rfl (rv_tmp rfl) ⟨_, ⟨by congr 1; refine decide_eq_decide.2 ?_; constructor; exact (fun h => ⟨hm, h.1, by omega⟩); exact (fun h => ⟨h.2.1, by have := h.2.2; omega⟩), rfl⟩, ?_⟩
   try dsimp only [ca, na]
   exact ent
  ·skip
   refine ws (st_po (po_bf (po_move rfl) (decide_eq_false hm)) rfl rfl rfl ?_)
   refine rp 8 rfl ?_
   refine Sn (Aw (Rt ?_))
   refine at_ret1 rfl (rv_tmp rfl) ⟨_, ⟨by simp only [IsC, hm, false_and, decide_false], rfl⟩, ?_⟩
   try dsimp only [ca, na]
   exact ent
theorem ref_Sectors (w h : Int) : Spec PP 32 #[.int .i64 w, .int .i64 h] [] (fun v M => v = .tuple #[.int .i64 (secsN w h).1, .int .i64 (secsN w h).2] ∧ M = []) := by
  refine spec_of (Go.Proofs.Tryz.func32) rfl rfl rfl (by exact fc_enters_32) ?_
  intro g F
  try dsimp only [ca, na]
  refine Sq (Rg ?_)
  refine rp 2 rfl ?_
  refine Sn (Aw (Sq (Sq (Rg ?_))))
  refine rp 2 rfl ?_
  refine Wc (co_fn rfl rfl) (ref_May w h) ?_
  rintro v8 _ ⟨rfl, rfl⟩
  try dsimp only [ca, na]
  refine Wp (po_not rfl) ?_
  refine Sn (Aw ?_)
  refine Rc rfl ?_ ?_
  ·skip
   intro hm
   refine Sq (Rg ?_)
   refine rp 2 rfl ?_
   refine Sn (Aw (Rt (Ar ?_)))
   refine at_ret2 rfl (rv_tmp rfl) (rv_tmp rfl) ⟨_, ⟨by rw [secsN, if_neg hm], rfl⟩, ?_⟩
   try dsimp only [ca, na]
   exact ent
  ·skip
   intro hm
   refine Sk (Aw (Sq (Rg ?_)))
   refine rp 1 rfl ?_
   refine Wp (po_add' rfl rfl (by omega) (by omega)) ?_
   refine Wp (po_sub' rfl rfl (by omega) (by omega)) ?_
   refine Wp (po_quo' rfl rfl (by omega) (by omega) (by omega)) ?_
   refine rp 1 rfl ?_
   refine Wp (po_add' rfl rfl (by omega) (by omega)) ?_
   refine Wp (po_sub' rfl rfl (by omega) (by omega)) ?_
   refine Wp (po_quo' rfl rfl (by omega) (by omega) (by omega)) ?_
   refine rp 2 rfl ?_
   refine Sn (Aw (Rt ?_))
   refine at_ret2 rfl (rv_tmp rfl) (rv_tmp rfl) ⟨_, ⟨by rw [secsN, if_pos hm, acrN, acrN, show w + 16 - 1 = w + 15 from by omega, show h + 16 - 1 = h + 15 from by omega], rfl⟩, ?_⟩
   try dsimp only [ca, na]
   exact ent
theorem ref_Count (w h : Int) : Spec PP 10 #[.int .i64 w, .int .i64 h] [] (fun v M => v = .int .i64 ((secsN w h).1 * (secsN w h).2) ∧ M = []) := by
  have hb := secs_mul w h
  refine spec_of (Go.Proofs.Tryz.func10) rfl rfl rfl (by exact fc_enters_10) ?_
  intro g F
  try dsimp only [ca, na]
  refine Sq (Rg ?_)
  refine rp 1 rfl ?_
  refine Sn (Aw (Sq (Rg ?_)))
  refine rp 2 rfl ?_
  refine Wc (co_fn rfl rfl) (ref_Sectors w h) ?_
  rintro v10 _ ⟨rfl, rfl⟩
  try dsimp only [ca, na]
  refine rp 5 rfl ?_
  refine Sn (Aw (Sq (Rg ?_)))
  refine rp 2 rfl ?_
  refine Wp (po_mul' rfl rfl (by omega) (by omega)) ?_
  refine rp 1 rfl ?_
  refine Sn (Aw (Rt ?_))
  refine at_ret1 rfl (rv_tmp rfl) ⟨_, ⟨rfl, rfl⟩, ?_⟩
  try dsimp only [ca, na]
  exact ent
theorem ref_Sector (w h c : Int) : Spec PP 21 #[.int .i64 w, .int .i64 h, .int .i64 c] [] (fun v M => v = .int .i64 (sectorN w h c) ∧ M = []) := by
  refine spec_of (Go.Proofs.Tryz.func21) rfl rfl rfl (by exact fc_enters_21) ?_
  intro g F
  try dsimp only [ca, na]
  refine Sq (Rg ?_)
  refine rp 1 rfl ?_
  refine Sn (Aw (Sq (Sq (Rg ?_))))
  refine rp 3 rfl ?_
  refine Wc (co_fn rfl rfl) (ref_IsCell w h c) ?_
  rintro v12 _ ⟨rfl, rfl⟩
  try dsimp only [ca, na]
  refine Wp (po_not rfl) ?_
  refine Sn (Aw ?_)
  refine Rc rfl ?_ ?_
  ·skip
   intro hc
   refine Sq (Rg ?_)
   refine rp 1 rfl ?_
   refine Sn (Aw (Rt (Ar ?_)))
   refine at_ret1 rfl (rv_tmp rfl) ⟨_, ⟨by rw [sectorN, if_neg hc], rfl⟩, ?_⟩
   try dsimp only [ca, na]
   exact ent
  ·skip
   intro hc
   refine Sk (Aw (Sq (Rg ?_)))
   refine rp 2 rfl ?_
   refine Wc (co_fn rfl rfl) (ref_Sectors w h) ?_
   rintro v17 _ ⟨rfl, rfl⟩
   try dsimp only [ca, na]
   refine rp 5 rfl ?_
   refine Sn (Aw (Sq ?_))
   have hxy := isc_xy hc
   have hbb := may_mul hc.1
   have hb := mul_1k (a := c / w / 16) (b := acrN w) (by omega) (by omega) (by unfold acrN; omega) (by unfold acrN; omega)
   rw [secsN, if_pos hc.1]
   dsimp only
   refine r_ord [] _ [(0, 1), (1, 1), (2, 1), (3, 1), (4, 1), (5, 1), (6, 1), (7, 1), (8, 1), (9, 1), (10, 1), (11, 1)] fc_mixed (by kernel_rfl) (fun _ h => h) ?_
   refine Of rfl (po_move rfl) ?_
   refine Of rfl (po_move rfl) ?_
   refine Of rfl (po_quo' rfl rfl (by omega) (by omega) (by omega)) ?_
   refine Of rfl (po_quo' rfl rfl (by omega) (by omega) (by omega)) ?_
   refine Of rfl (po_move rfl) ?_
   refine Of rfl (po_mul' rfl rfl (by omega) (by omega)) ?_
   refine Of rfl (po_move rfl) ?_
   refine Of rfl (po_move rfl) ?_
   refine Of rfl (po_rem' rfl rfl (by omega) (by omega)) ?_
   refine Of rfl (po_quo' rfl rfl (by omega) (by omega) (by omega)) ?_
   refine Of rfl (po_add' rfl rfl (by omega) (by omega)) ?_
   refine Of rfl (po_assign rfl) ?_
   refine o_nil ?_
   refine Aw (Rt ?_)
   refine at_ret1 rfl (rv_tmp rfl) ⟨_, ⟨by rw [sectorN, if_pos hc], rfl⟩, ?_⟩
   try dsimp only [ca, na]
   exact ent
theorem ref_Size (w h s : Int) : Spec PP 51 #[.int .i64 w, .int .i64 h, .int .i64 s] [] (fun v M => v = .tuple #[.int .i64 (sizeN w h s).1, .int .i64 (sizeN w h s).2] ∧ M = []) := by
  have hb := secs_mul w h
  refine spec_of (Go.Proofs.Tryz.func51) rfl rfl rfl (by exact fc_enters_51) ?_
  intro g F
  try dsimp only [ca, na]
  refine Sq (Rg ?_)
  refine rp 2 rfl ?_
  refine Sn (Aw (Sq (Sq (Rg ?_))))
  refine rp 3 rfl ?_
  refine Wc (co_fn rfl rfl) (ref_Count w h) ?_
  rintro v13 _ ⟨rfl, rfl⟩
  try dsimp only [ca, na]
  refine Wp (po_sub' rfl rfl (by omega) (by omega)) ?_
  refine Wc (co_fn rfl rfl) (ref_In s 0 ((secsN w h).1 * (secsN w h).2 - 1)) ?_
  rintro v15 _ ⟨rfl, rfl⟩
  try dsimp only [ca, na]
  refine Wp (po_not rfl) ?_
  refine Sn (Aw ?_)
  refine Rc rfl ?_ ?_
  ·skip
   intro hs
   refine Sq (Rg ?_)
   refine rp 2 rfl ?_
   refine Sn (Aw (Rt (Ar ?_)))
   refine at_ret2 rfl (rv_tmp rfl) (rv_tmp rfl) ⟨_, ⟨by rw [sizeN, if_neg (fun k => hs ⟨k.2.1, by have := k.2.2; rw [secsN, if_pos k.1]; dsimp only; omega⟩)], rfl⟩, ?_⟩
   try dsimp only [ca, na]
   exact ent
  ·skip
   intro hs
   refine Sk (Aw (Sq (Rg ?_)))
   refine rp 2 rfl ?_
   refine Wc (co_fn rfl rfl) (ref_Sectors w h) ?_
   rintro v20 _ ⟨rfl, rfl⟩
   try dsimp only [ca, na]
   refine rp 5 rfl ?_
   refine Sn (Aw (Sq ?_))
   have hs2 : IsS w h s := iss_of (by omega) (by omega)
   have hq := iss_xy hs2
   have ha := acr_pos hs2.1
   have hm := hs2.1
   rw [secsN, if_pos hs2.1]
   dsimp only
   refine r_ord [] _ [(0, 1), (1, 1), (2, 1), (3, 1), (4, 1), (5, 1), (6, 1), (7, 1), (8, 1), (9, 1), (10, 1), (11, 1), (12, 1), (13, 1), (14, 1), (15, 1)] fc_mixed (by kernel_rfl) (fun _ h => h) ?_
   refine Of rfl (po_move rfl) ?_
   refine Of rfl (po_move rfl) ?_
   refine Of rfl (po_move rfl) ?_
   refine Of rfl (po_rem' rfl rfl (by omega) (by omega)) ?_
   refine Of rfl (po_mul' rfl rfl (by omega) (by omega)) ?_
   refine Of rfl (po_sub' rfl rfl (by omega) (by omega)) ?_
   refine Of rfl (po_min rfl rfl) ?_
   refine Of rfl (po_move rfl) ?_
   refine Of rfl (po_move rfl) ?_
   refine Of rfl (po_move rfl) ?_
   refine Of rfl (po_quo' rfl rfl (by omega) (by omega) (by omega)) ?_
   refine Of rfl (po_mul' rfl rfl (by omega) (by omega)) ?_
   refine Of rfl (po_sub' rfl rfl (by omega) (by omega)) ?_
   refine Of rfl (po_min rfl rfl) ?_
   refine Of rfl (po_assign rfl) ?_
   refine Of rfl (po_assign rfl) ?_
   refine o_nil ?_
   refine Aw (Rt ?_)
   refine at_ret2 rfl (rv_tmp rfl) (rv_tmp rfl) ⟨_, ⟨by rw [sizeN, if_pos hs2, min_ite, min_ite, Int.mul_comm 16, Int.mul_comm 16], rfl⟩, ?_⟩
   try dsimp only [ca, na]
   exact ent
end Hd
end
section
namespace Hd
set_option maxRecDepth 100000
open Go

theorem ref_Global (w h s l : Int) : Spec PP 18 #[.int .i64 w, .int .i64 h, .int .i64 s, .int .i64 l] [] (fun v M => v = .int .i64 (globalN w h s l) ∧ M = []) := by
  have hz := size_le w h s
  have hb := mul_1k (a := (sizeN w h s).1) (b := (sizeN w h s).2) (by omega) (by omega) (by omega) (by omega)
  refine spec_of (Go.Proofs.Tryz.func18) rfl rfl rfl (by exact fc_enters_18) ?_
  intro g F
  try dsimp only [ca, na]
  refine Sq (Rg ?_)
  refine rp 1 rfl ?_
  refine Sn (Aw (Sq (Rg ?_)))
  refine rp 3 rfl ?_
  refine Wc (co_fn rfl rfl) (ref_Size w h s) ?_
  rintro v17 _ ⟨rfl, rfl⟩
  try dsimp only [ca, na]
  refine rp 5 rfl ?_
  refine Sn (Aw (Sq (Sq (Rg ?_))))
  refine rp 3 rfl ?_
  refine Wp (po_mul' rfl rfl (by omega) (by omega)) ?_
  refine Wp (po_sub' rfl rfl (by omega) (by omega)) ?_
  refine Wc (co_fn rfl rfl) (ref_In l 0 ((sizeN w h s).1 * (sizeN w h s).2 - 1)) ?_
  rintro v25 _ ⟨rfl, rfl⟩
  try dsimp only [ca, na]
  refine Wp (po_not rfl) ?_
  refine Sn (Aw ?_)
  refine Rc rfl ?_ ?_
  ·skip
   intro hl
   refine Sq (Rg ?_)
   refine rp 1 rfl ?_
   refine Sn (Aw (Rt (Ar ?_)))
   refine at_ret1 rfl (rv_tmp rfl) ⟨_, ⟨by rw [globalN, if_neg (fun k => hl ⟨k.2.1, by have := k.2.2; omega⟩)], rfl⟩, ?_⟩
   try dsimp only [ca, na]
   exact ent
  ·skip
   intro hl
   refine Sk (Aw (Sq ?_))
   have hs2 : IsS w h s := Classical.byContradiction fun hn => by rw [sizeN, if_neg hn] at hl; simp at hl; omega
   have hg := global_xy hs2 hl.1 (by omega)
   have hq := iss_xy hs2
   have ha := acr_pos hs2.1
   have hp := size_pos hs2
   have hm := hs2.1
   have hbm := may_mul hm
   have hs0 := hs2.2
   have hgi := mk_is hm hg.1 hg.2.1
   have h5 := mul_1k (a := acrN w) (b := acrN h) (by omega) (by omega) (by omega) (by omega)
   have h6 : 0 ≤ (s / acrN w * 16 + l / (sizeN w h s).1) * w ∧ (s / acrN w * 16 + l / (sizeN w h s).1) * w ≤ 1048576 := mul_1k (by omega) (by omega) (by omega) (by omega)
   refine Rg ?_
   refine rp 2 rfl ?_
   refine Wc (co_fn rfl rfl) (ref_Sectors w h) ?_
   rintro v30 _ ⟨rfl, rfl⟩
   try dsimp only [ca, na]
   refine rp 5 rfl ?_
   refine Sn (Aw (Sq ?_))
   rw [secsN, if_pos hm]
   dsimp only
   have h7 : (16 * (s / acrN w) + l / (sizeN w h s).1) * w = (s / acrN w * 16 + l / (sizeN w h s).1) * w := by rw [Int.mul_comm 16]
   refine r_ord [] _ [(0, 1), (1, 1), (2, 1), (3, 1), (4, 1), (5, 1), (6, 1), (7, 1), (8, 1), (9, 1), (10, 1), (11, 1), (12, 1), (13, 1), (14, 1), (15, 1), (16, 1), (17, 1), (18, 1), (19, 1)] fc_mixed (by kernel_rfl) (fun _ h => h) ?_
   refine Of rfl (po_move rfl) ?_
   refine Of rfl (po_move rfl) ?_
   refine Of rfl (po_quo' rfl rfl (by omega) (by omega) (by omega)) ?_
   refine Of rfl (po_mul' rfl rfl (by omega) (by omega)) ?_
   refine Of rfl (po_move rfl) ?_
   refine Of rfl (po_move rfl) ?_
   refine Of rfl (po_quo' rfl rfl (by omega) (by omega) (by omega)) ?_
   refine Of rfl (po_add' rfl rfl (by omega) (by omega)) ?_
   refine Of rfl (po_move rfl) ?_
   refine Of rfl (po_mul' rfl rfl (by omega) (by omega)) ?_
   refine Of rfl (po_move rfl) ?_
   refine Of rfl (po_move rfl) ?_
   refine Of rfl (po_rem' rfl rfl (by omega) (by omega)) ?_
   refine Of rfl (po_mul' rfl rfl (by omega) (by omega)) ?_
   refine Of rfl (po_add' rfl rfl (by omega) (by omega)) ?_
   refine Of rfl (po_move rfl) ?_
   refine Of rfl (po_move rfl) ?_
   refine Of rfl (po_rem' rfl rfl (by omega) (by omega)) ?_
   refine Of rfl (po_add' rfl rfl (by omega) (by omega)) ?_
   refine Of rfl (po_assign rfl) ?_
   refine o_nil ?_
   refine Aw (Rt ?_)
   refine at_ret1 rfl (rv_tmp rfl) ⟨_, ⟨by rw [globalN, if_pos ⟨hs2, hl.1, by omega⟩, Int.mul_comm 16, Int.mul_comm 16]; congr 1; omega, rfl⟩, ?_⟩
   try dsimp only [ca, na]
   exact ent
theorem ref_Step (w h c k : Int) : Spec PP 19 #[.int .i64 w, .int .i64 h, .int .i64 c, .int .i64 k] [] (fun v M => v = .int .i64 (stepN w h c k) ∧ M = []) := by
  refine spec_of (Go.Proofs.Tryz.func19) rfl rfl rfl (by exact fc_enters_19) ?_
  intro g F
  try dsimp only [ca, na]
  by_cases hc : IsC w h c
  ·skip
   obtain ⟨s0, s1, s2, s3⟩ := step_val hc
   have s4 : stepN w h c 4 = c := by rw [step_eq hc (by decide) (by decide)]; have := isc_xy hc; simp only [dx, dy]; simp; rw [cellN, if_pos ⟨hc.1, this.1, this.2.1⟩]; exact this.2.2.symm
   have hxy := isc_xy hc
   have hbm := may_mul hc.1
   have hm := hc.1
   have hnn := Int.mul_nonneg hxy.2.1.1 (show 0 ≤ w by omega)
   refine Sq (Rg ?_)
   refine rp 1 rfl ?_
   refine Sn (Aw (Sq (Sq (Rg ?_))))
   refine rp 3 rfl ?_
   refine Wc (co_fn rfl rfl) (ref_IsCell w h c) ?_
   rintro v14 _ ⟨rfl, rfl⟩
   try dsimp only [ca, na]
   refine Wp (po_not rfl) ?_
   refine Wp (po_bf (po_move rfl) (by simp [hc])) ?_
   refine rp 1 rfl ?_
   refine Wc (co_fn rfl rfl) (ref_In k 0 4) ?_
   rintro v18 _ ⟨rfl, rfl⟩
   try dsimp only [ca, na]
   refine Wp (po_not rfl) ?_
   refine rp 1 rfl ?_
   refine Sn (Aw ?_)
   refine Rc rfl ?_ ?_
   ·skip
    intro hk
    refine Sq (Rg ?_)
    refine rp 1 rfl ?_
    refine Sn (Aw (Rt (Ar ?_)))
    refine at_ret1 rfl (rv_tmp rfl) ⟨_, ⟨by rw [step_none (fun e => hk e.2)], rfl⟩, ?_⟩
    try dsimp only [ca, na]
    exact ent
   ·skip
    intro hk
    have hk5 : k = 0 ∨ k = 1 ∨ k = 2 ∨ k = 3 ∨ k = 4 := by omega
    rcases hk5 with rfl | rfl | rfl | rfl | rfl
    ·skip
     refine Sk (Aw (Sq ?_))
     refine r_ord [] _ [(0, 1), (1, 1), (2, 1), (3, 1), (4, 1), (5, 1), (6, 1), (7, 1)] fc_mixed (by kernel_rfl) (fun _ h => h) ?_
     refine Of rfl (po_move rfl) ?_
     refine Of rfl (po_move rfl) ?_
     refine Of rfl (po_rem' rfl rfl (by omega) (by omega)) ?_
     refine Of rfl (po_move rfl) ?_
     refine Of rfl (po_move rfl) ?_
     refine Of rfl (po_quo' rfl rfl (by omega) (by omega) (by omega)) ?_
     refine Of rfl (po_assign rfl) ?_
     refine Of rfl (po_assign rfl) ?_
     refine o_nil ?_
     refine Aw (Sq (Sq (Rg ?_)))
     refine rp 1 rfl ?_
     refine Wp (po_eq rfl rfl) ?_
     refine Sn (Aw ?_)
     first | refine r_dec_t rfl (rfl) ?_ | refine r_nd_t rfl (rfl) ?_ | refine r_cond_t rfl (rfl) ?_
     refine Rg ?_
     refine rp 1 rfl ?_
     refine Wp (po_sub' rfl rfl (by omega) (by omega)) ?_
     refine rp 1 rfl ?_
     refine Sn (Aw (Sq (Sq (Rg ?_))))
     refine rp 1 rfl ?_
     refine Wp (po_eq rfl rfl) ?_
     refine Sn (Aw ?_)
     first | refine r_dec_f rfl (by decide) ?_ | refine r_nd_f rfl (by decide) ?_ | refine r_cond_f rfl (by decide) ?_
     refine Sk (Aw (Sq (Sq (Rg ?_))))
     refine rp 1 rfl ?_
     refine Wp (po_eq rfl rfl) ?_
     refine Sn (Aw ?_)
     first | refine r_dec_f rfl (by decide) ?_ | refine r_nd_f rfl (by decide) ?_ | refine r_cond_f rfl (by decide) ?_
     refine Sk (Aw (Sq (Sq (Rg ?_))))
     refine rp 1 rfl ?_
     refine Wp (po_eq rfl rfl) ?_
     refine Sn (Aw ?_)
     first | refine r_dec_f rfl (by decide) ?_ | refine r_nd_f rfl (by decide) ?_ | refine r_cond_f rfl (by decide) ?_
     refine Sk (Aw (Sq (Sq (Rg ?_))))
     refine rp 2 rfl ?_
     refine Wp (po_sub' rfl rfl (by omega) (by omega)) ?_
     refine Wc (co_fn rfl rfl) (ref_In (c % w) 0 (w - 1)) ?_
     rintro v46 _ ⟨rfl, rfl⟩
     try dsimp only [ca, na]
     refine Wp (po_not rfl) ?_
     refine Wp (po_bf (po_move rfl) (by rw [decide_eq_true (by omega)]; rfl)) ?_
     refine rp 2 rfl ?_
     refine Wp (po_sub' rfl rfl (by omega) (by omega)) ?_
     refine Wc (co_fn rfl rfl) (ref_In (c / w - 1) 0 (h - 1)) ?_
     rintro v52 _ ⟨rfl, rfl⟩
     try dsimp only [ca, na]
     refine Wp (po_not rfl) ?_
     refine rp 1 rfl ?_
     refine Sn (Aw ?_)
     refine Rc rfl ?_ ?_
     ·skip
      intro hy
      refine Sq (Rg ?_)
      refine rp 1 rfl ?_
      refine Sn (Aw (Rt (Ar ?_)))
      refine at_ret1 rfl (rv_tmp rfl) ⟨_, ⟨by rw [s0, if_neg (by omega)], rfl⟩, ?_⟩
      try dsimp only [ca, na]
      exact ent
     ·skip
      intro hy
      have hmb : 0 ≤ (c / w - 1) * w ∧ (c / w - 1) * w ≤ 1048576 := mul_1k (by omega) (by omega) (by omega) (by omega)
      refine Sk (Aw (Sq (Rg ?_)))
      refine rp 2 rfl ?_
      refine Wp (po_mul' rfl rfl (by omega) (by omega)) ?_
      refine rp 1 rfl ?_
      refine Wp (po_add' rfl rfl (by omega) (by omega)) ?_
      refine rp 1 rfl ?_
      refine Sn (Aw (Rt ?_))
      refine at_ret1 rfl (rv_tmp rfl) ⟨_, ⟨by rw [s0, if_pos (by omega)]; congr 1; rw [Int.sub_mul, Int.one_mul]; omega, rfl⟩, ?_⟩
      try dsimp only [ca, na]
      exact ent
    ·skip
     refine Sk (Aw (Sq ?_))
     refine r_ord [] _ [(0, 1), (1, 1), (2, 1), (3, 1), (4, 1), (5, 1), (6, 1), (7, 1)] fc_mixed (by kernel_rfl) (fun _ h => h) ?_
     refine Of rfl (po_move rfl) ?_
     refine Of rfl (po_move rfl) ?_
     refine Of rfl (po_rem' rfl rfl (by omega) (by omega)) ?_
     refine Of rfl (po_move rfl) ?_
     refine Of rfl (po_move rfl) ?_
     refine Of rfl (po_quo' rfl rfl (by omega) (by omega) (by omega)) ?_
     refine Of rfl (po_assign rfl) ?_
     refine Of rfl (po_assign rfl) ?_
     refine o_nil ?_
     refine Aw (Sq (Sq (Rg ?_)))
     refine rp 1 rfl ?_
     refine Wp (po_eq rfl rfl) ?_
     refine Sn (Aw ?_)
     first | refine r_dec_f rfl (by decide) ?_ | refine r_nd_f rfl (by decide) ?_ | refine r_cond_f rfl (by decide) ?_
     refine Sk (Aw (Sq (Sq (Rg ?_))))
     refine rp 1 rfl ?_
     refine Wp (po_eq rfl rfl) ?_
     refine Sn (Aw ?_)
     first | refine r_dec_t rfl (rfl) ?_ | refine r_nd_t rfl (rfl) ?_ | refine r_cond_t rfl (rfl) ?_
     refine Rg ?_
     refine rp 1 rfl ?_
     refine Wp (po_add' rfl rfl (by omega) (by omega)) ?_
     refine rp 1 rfl ?_
     refine Sn (Aw (Sq (Sq (Rg ?_))))
     refine rp 1 rfl ?_
     refine Wp (po_eq rfl rfl) ?_
     refine Sn (Aw ?_)
     first | refine r_dec_f rfl (by decide) ?_ | refine r_nd_f rfl (by decide) ?_ | refine r_cond_f rfl (by decide) ?_
     refine Sk (Aw (Sq (Sq (Rg ?_))))
     refine rp 1 rfl ?_
     refine Wp (po_eq rfl rfl) ?_
     refine Sn (Aw ?_)
     first | refine r_dec_f rfl (by decide) ?_ | refine r_nd_f rfl (by decide) ?_ | refine r_cond_f rfl (by decide) ?_
     refine Sk (Aw (Sq (Sq (Rg ?_))))
     refine rp 2 rfl ?_
     refine Wp (po_sub' rfl rfl (by omega) (by omega)) ?_
     refine Wc (co_fn rfl rfl) (ref_In (c % w + 1) 0 (w - 1)) ?_
     rintro v46 _ ⟨rfl, rfl⟩
     try dsimp only [ca, na]
     refine Wp (po_not rfl) ?_
     by_cases hx : 0 ≤ c % w + 1 ∧ c % w + 1 ≤ w - 1
     ·skip
      refine ws (st_po (po_bf (po_move rfl) (by simp only [decide_eq_true hx]; simp)) rfl rfl rfl ?_)
      refine rp 2 rfl ?_
      refine Wp (po_sub' rfl rfl (by omega) (by omega)) ?_
      refine Wc (co_fn rfl rfl) (ref_In (c / w) 0 (h - 1)) ?_
      rintro v52 _ ⟨rfl, rfl⟩
      try dsimp only [ca, na]
      refine Wp (po_not rfl) ?_
      refine rp 1 rfl ?_
      refine Sn (Aw ?_)
      first | refine r_dec_f rfl (by omega) ?_ | refine r_nd_f rfl (by omega) ?_ | refine r_cond_f rfl (by omega) ?_
      refine Sk (Aw (Sq (Rg ?_)))
      refine rp 2 rfl ?_
      refine Wp (po_mul' rfl rfl (by omega) (by omega)) ?_
      refine rp 1 rfl ?_
      refine Wp (po_add' rfl rfl (by omega) (by omega)) ?_
      refine rp 1 rfl ?_
      refine Sn (Aw (Rt ?_))
      refine at_ret1 rfl (rv_tmp rfl) ⟨_, ⟨by rw [s1, if_pos (by omega)]; congr 1; omega, rfl⟩, ?_⟩
      try dsimp only [ca, na]
      exact ent
     ·skip
      refine ws (st_po (po_bt (po_move rfl) (by simp only [decide_eq_false hx]; simp)) rfl rfl rfl ?_)
      refine rp 6 rfl ?_
      refine Sn (Aw ?_)
      refine r_cond_t rfl rfl ?_
      refine Sq (Rg ?_)
      refine rp 1 rfl ?_
      refine Sn (Aw (Rt (Ar ?_)))
      refine at_ret1 rfl (rv_tmp rfl) ⟨_, ⟨by rw [s1, if_neg (by omega)], rfl⟩, ?_⟩
      try dsimp only [ca, na]
      exact ent
    ·skip
     refine Sk (Aw (Sq ?_))
     refine r_ord [] _ [(0, 1), (1, 1), (2, 1), (3, 1), (4, 1), (5, 1), (6, 1), (7, 1)] fc_mixed (by kernel_rfl) (fun _ h => h) ?_
     refine Of rfl (po_move rfl) ?_
     refine Of rfl (po_move rfl) ?_
     refine Of rfl (po_rem' rfl rfl (by omega) (by omega)) ?_
     refine Of rfl (po_move rfl) ?_
     refine Of rfl (po_move rfl) ?_
     refine Of rfl (po_quo' rfl rfl (by omega) (by omega) (by omega)) ?_
     refine Of rfl (po_assign rfl) ?_
     refine Of rfl (po_assign rfl) ?_
     refine o_nil ?_
     refine Aw (Sq (Sq (Rg ?_)))
     refine rp 1 rfl ?_
     refine Wp (po_eq rfl rfl) ?_
     refine Sn (Aw ?_)
     first | refine r_dec_f rfl (by decide) ?_ | refine r_nd_f rfl (by decide) ?_ | refine r_cond_f rfl (by decide) ?_
     refine Sk (Aw (Sq (Sq (Rg ?_))))
     refine rp 1 rfl ?_
     refine Wp (po_eq rfl rfl) ?_
     refine Sn (Aw ?_)
     first | refine r_dec_f rfl (by decide) ?_ | refine r_nd_f rfl (by decide) ?_ | refine r_cond_f rfl (by decide) ?_
     refine Sk (Aw (Sq (Sq (Rg ?_))))
     refine rp 1 rfl ?_
     refine Wp (po_eq rfl rfl) ?_
     refine Sn (Aw ?_)
     first | refine r_dec_t rfl (rfl) ?_ | refine r_nd_t rfl (rfl) ?_ | refine r_cond_t rfl (rfl) ?_
     refine Rg ?_
     refine rp 1 rfl ?_
     refine Wp (po_add' rfl rfl (by omega) (by omega)) ?_
     refine rp 1 rfl ?_
     refine Sn (Aw (Sq (Sq (Rg ?_))))
     refine rp 1 rfl ?_
     refine Wp (po_eq rfl rfl) ?_
     refine Sn (Aw ?_)
     first | refine r_dec_f rfl (by decide) ?_ | refine r_nd_f rfl (by decide) ?_ | refine r_cond_f rfl (by decide) ?_
     refine Sk (Aw (Sq (Sq (Rg ?_))))
     refine rp 2 rfl ?_
     refine Wp (po_sub' rfl rfl (by omega) (by omega)) ?_
     refine Wc (co_fn rfl rfl) (ref_In (c % w) 0 (w - 1)) ?_
     rintro v46 _ ⟨rfl, rfl⟩
     try dsimp only [ca, na]
     refine Wp (po_not rfl) ?_
     refine Wp (po_bf (po_move rfl) (by rw [decide_eq_true (by omega)]; rfl)) ?_
     refine rp 2 rfl ?_
     refine Wp (po_sub' rfl rfl (by omega) (by omega)) ?_
     refine Wc (co_fn rfl rfl) (ref_In (c / w + 1) 0 (h - 1)) ?_
     rintro v52 _ ⟨rfl, rfl⟩
     try dsimp only [ca, na]
     refine Wp (po_not rfl) ?_
     refine rp 1 rfl ?_
     refine Sn (Aw ?_)
     refine Rc rfl ?_ ?_
     ·skip
      intro hy
      refine Sq (Rg ?_)
      refine rp 1 rfl ?_
      refine Sn (Aw (Rt (Ar ?_)))
      refine at_ret1 rfl (rv_tmp rfl) ⟨_, ⟨by rw [s2, if_neg (by omega)], rfl⟩, ?_⟩
      try dsimp only [ca, na]
      exact ent
     ·skip
      intro hy
      have hmb : 0 ≤ (c / w + 1) * w ∧ (c / w + 1) * w ≤ 1048576 := mul_1k (by omega) (by omega) (by omega) (by omega)
      refine Sk (Aw (Sq (Rg ?_)))
      refine rp 2 rfl ?_
      refine Wp (po_mul' rfl rfl (by omega) (by omega)) ?_
      refine rp 1 rfl ?_
      refine Wp (po_add' rfl rfl (by omega) (by omega)) ?_
      refine rp 1 rfl ?_
      refine Sn (Aw (Rt ?_))
      refine at_ret1 rfl (rv_tmp rfl) ⟨_, ⟨by rw [s2, if_pos (by omega)]; congr 1; rw [Int.add_mul, Int.one_mul]; omega, rfl⟩, ?_⟩
      try dsimp only [ca, na]
      exact ent
    ·skip
     refine Sk (Aw (Sq ?_))
     refine r_ord [] _ [(0, 1), (1, 1), (2, 1), (3, 1), (4, 1), (5, 1), (6, 1), (7, 1)] fc_mixed (by kernel_rfl) (fun _ h => h) ?_
     refine Of rfl (po_move rfl) ?_
     refine Of rfl (po_move rfl) ?_
     refine Of rfl (po_rem' rfl rfl (by omega) (by omega)) ?_
     refine Of rfl (po_move rfl) ?_
     refine Of rfl (po_move rfl) ?_
     refine Of rfl (po_quo' rfl rfl (by omega) (by omega) (by omega)) ?_
     refine Of rfl (po_assign rfl) ?_
     refine Of rfl (po_assign rfl) ?_
     refine o_nil ?_
     refine Aw (Sq (Sq (Rg ?_)))
     refine rp 1 rfl ?_
     refine Wp (po_eq rfl rfl) ?_
     refine Sn (Aw ?_)
     first | refine r_dec_f rfl (by decide) ?_ | refine r_nd_f rfl (by decide) ?_ | refine r_cond_f rfl (by decide) ?_
     refine Sk (Aw (Sq (Sq (Rg ?_))))
     refine rp 1 rfl ?_
     refine Wp (po_eq rfl rfl) ?_
     refine Sn (Aw ?_)
     first | refine r_dec_f rfl (by decide) ?_ | refine r_nd_f rfl (by decide) ?_ | refine r_cond_f rfl (by decide) ?_
     refine Sk (Aw (Sq (Sq (Rg ?_))))
     refine rp 1 rfl ?_
     refine Wp (po_eq rfl rfl) ?_
     refine Sn (Aw ?_)
     first | refine r_dec_f rfl (by decide) ?_ | refine r_nd_f rfl (by decide) ?_ | refine r_cond_f rfl (by decide) ?_
     refine Sk (Aw (Sq (Sq (Rg ?_))))
     refine rp 1 rfl ?_
     refine Wp (po_eq rfl rfl) ?_
     refine Sn (Aw ?_)
     first | refine r_dec_t rfl (rfl) ?_ | refine r_nd_t rfl (rfl) ?_ | refine r_cond_t rfl (rfl) ?_
     refine Rg ?_
     refine rp 1 rfl ?_
     refine Wp (po_sub' rfl rfl (by omega) (by omega)) ?_
     refine rp 1 rfl ?_
     refine Sn (Aw (Sq (Sq (Rg ?_))))
     refine rp 2 rfl ?_
     refine Wp (po_sub' rfl rfl (by omega) (by omega)) ?_
     refine Wc (co_fn rfl rfl) (ref_In (c % w - 1) 0 (w - 1)) ?_
     rintro v46 _ ⟨rfl, rfl⟩
     try dsimp only [ca, na]
     refine Wp (po_not rfl) ?_
     by_cases hx : 0 ≤ c % w - 1 ∧ c % w - 1 ≤ w - 1
     ·skip
      refine ws (st_po (po_bf (po_move rfl) (by simp only [decide_eq_true hx]; simp)) rfl rfl rfl ?_)
      refine rp 2 rfl ?_
      refine Wp (po_sub' rfl rfl (by omega) (by omega)) ?_
      refine Wc (co_fn rfl rfl) (ref_In (c / w) 0 (h - 1)) ?_
      rintro v52 _ ⟨rfl, rfl⟩
      try dsimp only [ca, na]
      refine Wp (po_not rfl) ?_
      refine rp 1 rfl ?_
      refine Sn (Aw ?_)
      first | refine r_dec_f rfl (by omega) ?_ | refine r_nd_f rfl (by omega) ?_ | refine r_cond_f rfl (by omega) ?_
      refine Sk (Aw (Sq (Rg ?_)))
      refine rp 2 rfl ?_
      refine Wp (po_mul' rfl rfl (by omega) (by omega)) ?_
      refine rp 1 rfl ?_
      refine Wp (po_add' rfl rfl (by omega) (by omega)) ?_
      refine rp 1 rfl ?_
      refine Sn (Aw (Rt ?_))
      refine at_ret1 rfl (rv_tmp rfl) ⟨_, ⟨by rw [s3, if_pos (by omega)]; congr 1; omega, rfl⟩, ?_⟩
      try dsimp only [ca, na]
      exact ent
     ·skip
      refine ws (st_po (po_bt (po_move rfl) (by simp only [decide_eq_false hx]; simp)) rfl rfl rfl ?_)
      refine rp 6 rfl ?_
      refine Sn (Aw ?_)
      refine r_cond_t rfl rfl ?_
      refine Sq (Rg ?_)
      refine rp 1 rfl ?_
      refine Sn (Aw (Rt (Ar ?_)))
      refine at_ret1 rfl (rv_tmp rfl) ⟨_, ⟨by rw [s3, if_neg (by omega)], rfl⟩, ?_⟩
      try dsimp only [ca, na]
      exact ent
    ·skip
     refine Sk (Aw (Sq ?_))
     refine r_ord [] _ [(0, 1), (1, 1), (2, 1), (3, 1), (4, 1), (5, 1), (6, 1), (7, 1)] fc_mixed (by kernel_rfl) (fun _ h => h) ?_
     refine Of rfl (po_move rfl) ?_
     refine Of rfl (po_move rfl) ?_
     refine Of rfl (po_rem' rfl rfl (by omega) (by omega)) ?_
     refine Of rfl (po_move rfl) ?_
     refine Of rfl (po_move rfl) ?_
     refine Of rfl (po_quo' rfl rfl (by omega) (by omega) (by omega)) ?_
     refine Of rfl (po_assign rfl) ?_
     refine Of rfl (po_assign rfl) ?_
     refine o_nil ?_
     refine Aw (Sq (Sq (Rg ?_)))
     refine rp 1 rfl ?_
     refine Wp (po_eq rfl rfl) ?_
     refine Sn (Aw ?_)
     first | refine r_dec_f rfl (by decide) ?_ | refine r_nd_f rfl (by decide) ?_ | refine r_cond_f rfl (by decide) ?_
     refine Sk (Aw (Sq (Sq (Rg ?_))))
     refine rp 1 rfl ?_
     refine Wp (po_eq rfl rfl) ?_
     refine Sn (Aw ?_)
     first | refine r_dec_f rfl (by decide) ?_ | refine r_nd_f rfl (by decide) ?_ | refine r_cond_f rfl (by decide) ?_
     refine Sk (Aw (Sq (Sq (Rg ?_))))
     refine rp 1 rfl ?_
     refine Wp (po_eq rfl rfl) ?_
     refine Sn (Aw ?_)
     first | refine r_dec_f rfl (by decide) ?_ | refine r_nd_f rfl (by decide) ?_ | refine r_cond_f rfl (by decide) ?_
     refine Sk (Aw (Sq (Sq (Rg ?_))))
     refine rp 1 rfl ?_
     refine Wp (po_eq rfl rfl) ?_
     refine Sn (Aw ?_)
     first | refine r_dec_f rfl (by decide) ?_ | refine r_nd_f rfl (by decide) ?_ | refine r_cond_f rfl (by decide) ?_
     refine Sk (Aw (Sq (Sq (Rg ?_))))
     refine rp 2 rfl ?_
     refine Wp (po_sub' rfl rfl (by omega) (by omega)) ?_
     refine Wc (co_fn rfl rfl) (ref_In (c % w) 0 (w - 1)) ?_
     rintro v46 _ ⟨rfl, rfl⟩
     try dsimp only [ca, na]
     refine Wp (po_not rfl) ?_
     refine Wp (po_bf (po_move rfl) (by rw [decide_eq_true (by omega)]; rfl)) ?_
     refine rp 2 rfl ?_
     refine Wp (po_sub' rfl rfl (by omega) (by omega)) ?_
     refine Wc (co_fn rfl rfl) (ref_In (c / w) 0 (h - 1)) ?_
     rintro v52 _ ⟨rfl, rfl⟩
     try dsimp only [ca, na]
     refine Wp (po_not rfl) ?_
     refine rp 1 rfl ?_
     refine Sn (Aw ?_)
     first | refine r_dec_f rfl (by omega) ?_ | refine r_nd_f rfl (by omega) ?_ | refine r_cond_f rfl (by omega) ?_
     refine Sk (Aw (Sq (Rg ?_)))
     refine rp 2 rfl ?_
     refine Wp (po_mul' rfl rfl (by omega) (by omega)) ?_
     refine rp 1 rfl ?_
     refine Wp (po_add' rfl rfl (by omega) (by omega)) ?_
     refine rp 1 rfl ?_
     refine Sn (Aw (Rt ?_))
     refine at_ret1 rfl (rv_tmp rfl) ⟨_, ⟨by rw [s4]; congr 1; omega, rfl⟩, ?_⟩
     try dsimp only [ca, na]
     exact ent
  ·skip
   refine Sq (Rg ?_)
   refine rp 1 rfl ?_
   refine Sn (Aw (Sq (Sq (Rg ?_))))
   refine rp 3 rfl ?_
   refine Wc (co_fn rfl rfl) (ref_IsCell w h c) ?_
   rintro v14 _ ⟨rfl, rfl⟩
   try dsimp only [ca, na]
   refine Wp (po_not rfl) ?_
   refine Wp (po_bt (po_move rfl) (by simp [hc])) ?_
   refine rp 4 rfl ?_
   refine Sn (Aw ?_)
   refine r_cond_t rfl rfl ?_
   refine Sq (Rg ?_)
   refine rp 1 rfl ?_
   refine Sn (Aw (Rt (Ar ?_)))
   refine at_ret1 rfl (rv_tmp rfl) ⟨_, ⟨by rw [step_none (fun e => hc e.1)], rfl⟩, ?_⟩
   try dsimp only [ca, na]
   exact ent
end Hd
end
section
namespace Hd
set_option maxRecDepth 100000
open Go

theorem ref_Local (w h c : Int) : Spec PP 36 #[.int .i64 w, .int .i64 h, .int .i64 c] [] (fun v M => v = .int .i64 (localN w h c) ∧ M = []) := by
  refine spec_of (Go.Proofs.Tryz.func36) rfl rfl rfl (by exact fc_enters_36) ?_
  intro g F
  try dsimp only [ca, na]
  by_cases hc : IsC w h c
  ·skip
   have hs := sector_lt hc
   have hs0 := hs.1.2.1
   have hs1 := hs.1.2.2
   have hxy := isc_xy hc
   have hm := hc.1
   have hbm := may_mul hm
   have ha := acr_pos hm
   have h5 := mul_1k (a := acrN w) (b := acrN h) (by omega) (by omega) (by omega) (by omega)
   have hz := size_le w h (sectorN w h c)
   have h6 : 0 ≤ (c / w % 16) * (sizeN w h (sectorN w h c)).1 ∧ (c / w % 16) * (sizeN w h (sectorN w h c)).1 ≤ 1048576 := mul_1k (by omega) (by omega) (by omega) (by omega)
   have e1 : c / w - 16 * (sectorN w h c / acrN w) = c / w % 16 := by rw [hs.2.2]; omega
   have e2 : 16 * (sectorN w h c % acrN w) = 16 * (c % w / 16) := by rw [hs.2.1]
   have h7 : (c / w - 16 * (sectorN w h c / acrN w)) * (sizeN w h (sectorN w h c)).1 = (c / w % 16) * (sizeN w h (sectorN w h c)).1 := by rw [e1]
   have h8 : 0 ≤ sectorN w h c / acrN w ∧ sectorN w h c / acrN w ≤ 64 := by rw [hs.2.2]; omega
   have h9 : 0 ≤ sectorN w h c % acrN w ∧ sectorN w h c % acrN w ≤ 64 := by rw [hs.2.1]; omega
   refine Sq (Rg ?_)
   refine rp 1 rfl ?_
   refine Sn (Aw (Sq (Rg ?_)))
   refine rp 3 rfl ?_
   refine Wc (co_fn rfl rfl) (ref_Sector w h c) ?_
   rintro v15 _ ⟨rfl, rfl⟩
   try dsimp only [ca, na]
   refine rp 1 rfl ?_
   refine Sn (Aw (Sq (Sq (Rg ?_))))
   refine rp 1 rfl ?_
   refine Wp (po_lt rfl rfl) ?_
   refine Sn (Aw ?_)
   first | refine r_dec_f rfl (by omega) ?_ | refine r_nd_f rfl (by omega) ?_ | refine r_cond_f rfl (by omega) ?_
   refine Sk (Aw (Sq (Rg ?_)))
   refine rp 2 rfl ?_
   refine Wc (co_fn rfl rfl) (ref_Sectors w h) ?_
   rintro v21 _ ⟨rfl, rfl⟩
   try dsimp only [ca, na]
   refine rp 5 rfl ?_
   refine Sn (Aw (Sq ?_))
   rw [secsN, if_pos hm]
   dsimp only
   refine Rg ?_
   refine rp 3 rfl ?_
   refine Wc (co_fn rfl rfl) (ref_Size w h (sectorN w h c)) ?_
   rintro v28 _ ⟨rfl, rfl⟩
   try dsimp only [ca, na]
   refine rp 5 rfl ?_
   refine Sn (Aw (Sq ?_))
   refine r_ord [] _ [(0, 1), (1, 1), (2, 1), (3, 1), (4, 1), (5, 1), (6, 1), (7, 1), (8, 1), (9, 1), (10, 1), (11, 1), (12, 1), (13, 1), (14, 1), (15, 1), (16, 1), (17, 1), (18, 1), (19, 1)] fc_mixed (by kernel_rfl) (fun _ h => h) ?_
   refine Of rfl (po_move rfl) ?_
   refine Of rfl (po_move rfl) ?_
   refine Of rfl (po_quo' rfl rfl (by omega) (by omega) (by omega)) ?_
   refine Of rfl (po_move rfl) ?_
   refine Of rfl (po_move rfl) ?_
   refine Of rfl (po_quo' rfl rfl (by omega) (by omega) (by omega)) ?_
   refine Of rfl (po_mul' rfl rfl (by omega) (by omega)) ?_
   refine Of rfl (po_sub' rfl rfl (by omega) (by omega)) ?_
   refine Of rfl (po_move rfl) ?_
   refine Of rfl (po_mul' rfl rfl (by omega) (by omega)) ?_
   refine Of rfl (po_move rfl) ?_
   refine Of rfl (po_move rfl) ?_
   refine Of rfl (po_rem' rfl rfl (by omega) (by omega)) ?_
   refine Of rfl (po_add' rfl rfl (by omega) (by omega)) ?_
   refine Of rfl (po_move rfl) ?_
   refine Of rfl (po_move rfl) ?_
   refine Of rfl (po_rem' rfl rfl (by omega) (by omega)) ?_
   refine Of rfl (po_mul' rfl rfl (by omega) (by omega)) ?_
   refine Of rfl (po_sub' rfl rfl (by omega) (by omega)) ?_
   refine Of rfl (po_assign rfl) ?_
   refine o_nil ?_
   refine Aw (Rt ?_)
   refine at_ret1 rfl (rv_tmp rfl) ⟨_, ⟨by rw [localN, if_pos hc, h7, e2]; congr 1; omega, rfl⟩, ?_⟩
   try dsimp only [ca, na]
   exact ent
  ·skip
   refine Sq (Rg ?_)
   refine rp 1 rfl ?_
   refine Sn (Aw (Sq (Rg ?_)))
   refine rp 3 rfl ?_
   refine Wc (co_fn rfl rfl) (ref_Sector w h c) ?_
   rintro v15 _ ⟨rfl, rfl⟩
   try dsimp only [ca, na]
   rw [sectorN, if_neg hc]
   refine rp 1 rfl ?_
   refine Sn (Aw (Sq (Sq (Rg ?_))))
   refine rp 1 rfl ?_
   refine Wp (po_lt rfl rfl) ?_
   refine Sn (Aw ?_)
   first | refine r_dec_t rfl (by decide) ?_ | refine r_nd_t rfl (by decide) ?_ | refine r_cond_t rfl (by decide) ?_
   refine Sq (Rg ?_)
   refine rp 1 rfl ?_
   refine Sn (Aw (Rt (Ar ?_)))
   refine at_ret1 rfl (rv_tmp rfl) ⟨_, ⟨by rw [localN, if_neg hc], rfl⟩, ?_⟩
   try dsimp only [ca, na]
   exact ent
/-- the cost of a number -/
def costB (x : Int) : Int := if x % 8 = 7 then 255 else if x < 160 then 1 + x % 4 else x
theorem ref_Cost (x : Int) (h0 : 0 ≤ x) (h1 : x ≤ 255) : Spec PP 27 #[.int .u8 x] [] (fun v M => v = .int .u8 (costB x) ∧ M = []) := by
  refine spec_of (Go.Proofs.Tryz.func27) rfl rfl rfl (by exact fc_enters_27) ?_
  intro g F
  try dsimp only [ca, na]
  refine Sq (Rg ?_)
  refine rp 1 rfl ?_
  refine Sn (Aw (Sq (Sq (Rg ?_))))
  refine rp 1 rfl ?_
  refine Wp (po_rem_u rfl rfl (by omega) (by omega)) ?_
  refine Wp (po_eq rfl rfl) ?_
  refine Sn (Aw ?_)
  refine Rc rfl ?_ ?_
  ·skip
   intro h7
   refine Sq (Rg ?_)
   refine rp 1 rfl ?_
   refine Sn (Aw (Rt (Ar ?_)))
   refine at_ret1 rfl (rv_tmp rfl) ⟨_, ⟨by rw [costB, if_pos h7], rfl⟩, ?_⟩
   try dsimp only [ca, na]
   exact ent
  ·skip
   intro h7
   refine Sk (Aw (Sq (Sq (Rg ?_))))
   refine rp 1 rfl ?_
   refine Wp (po_lt rfl rfl) ?_
   refine Sn (Aw ?_)
   refine Rc rfl ?_ ?_
   ·skip
    intro h8
    refine Sq (Rg ?_)
    refine rp 1 rfl ?_
    refine Wp (po_rem_u rfl rfl (by omega) (by omega)) ?_
    refine Wp (po_add_w rfl rfl (wrap_u8 _ (by omega) (by omega))) ?_
    refine rp 1 rfl ?_
    refine Sn (Aw (Rt (Ar ?_)))
    refine at_ret1 rfl (rv_tmp rfl) ⟨_, ⟨by rw [costB, if_neg h7, if_pos h8], rfl⟩, ?_⟩
    try dsimp only [ca, na]
    exact ent
   ·skip
    intro h8
    refine Sk (Aw (Sq (Rg ?_)))
    refine rp 2 rfl ?_
    refine Sn (Aw (Rt ?_))
    refine at_ret1 rfl (rv_tmp rfl) ⟨_, ⟨by rw [costB, if_neg h7, if_neg h8], rfl⟩, ?_⟩
    try dsimp only [ca, na]
    exact ent
theorem ref_full (cv : Value) (c : List Int) (hl : c.length ≤ 2^30) : Spec PP 81 #[cv] [Sl eB cv c] (fun v M => v = .bool (!decide ((0 : Int) ∈ c)) ∧ M = [Sl eB cv c]) := by
  refine spec_of (Go.Proofs.Tryz.func81) rfl rfl rfl (by exact fc_enters_81) ?_
  intro g F
  try dsimp only [ca, na]
  refine Sq (Rg ?_)
  refine rp 1 rfl ?_
  refine Sn (Aw (Sq (Sq (Rg ?_))))
  refine rp 1 rfl ?_
  refine Sn (Aw (Bk ?_))
  refine r_loop (S := Nat) (fun k => [(3, .int .i64 k)]) [(0, _)] (fun k => [Sl eB cv c, F]) (fun k => k ≤ c.length ∧ ∀ j, (h : j < c.length) → j < k → c[j] ≠ 0) (fun k => c.length - k) (0) (And.intro rfl (trivial)) (And.intro rfl (trivial)) (⟨by omega, fun j _ h => by omega⟩) ent ?_
  rintro k ⟨hk, hne⟩
  try dsimp only [ca, na]
  refine Sq (Sq (Rg ?_))
  refine rp 2 rfl ?_
  refine Wp (po_len rfl (by exact fc_slice_22_5_1)) ?_
  refine Wp (po_lt rfl rfl) ?_
  refine Sn (Aw ?_)
  refine Rc rfl ?_ ?_
  ·skip
   intro hlt
   refine Sk (Aw (Sq (Bk (Sq (Rg ?_)))))
   refine rp 2 rfl ?_
   refine Wp (po_iaddr rfl rfl (by exact fc_slice_22_5_1) (by first | omega | (simp <;> omega)) (by first | omega | (simp <;> omega))) ?_
   refine Wp (po_load_sl rfl (List.getElem?_eq_getElem (by first | omega | (simp <;> omega))) (by exact fc_flat_5) (by rfl)) ?_
   refine Wp (po_eq rfl rfl) ?_
   refine Sn (Aw ?_)
   refine Rc rfl ?_ ?_
   ·skip
    intro heq
    refine Sq (Rg ?_)
    refine rp 1 rfl ?_
    refine Sn (Aw (Rt (Br (Ar (Ar (Br (Ar ?_)))))))
    refine at_ret1 rfl (rv_tmp rfl) ⟨_, ⟨by rw [decide_eq_true (by rw [← heq]; exact List.getElem_mem _)]; rfl, rfl⟩, ?_⟩
    try dsimp only [ca, na]
    exact ent
   ·skip
    intro heq
    refine Sk (Bn (Aw (Rg ?_)))
    refine rp 1 rfl ?_
    refine Wp (po_add' rfl rfl (by omega) (by omega)) ?_
    refine rp 1 rfl ?_
    refine Sn ?_
    exact at_again (k + 1) (And.intro rfl (trivial)) (And.intro rfl (trivial)) (⟨by omega, fun j hj h => by by_cases e : j = k; (subst e; simpa using heq); exact hne j hj (by omega)⟩) (by omega) ent
  ·skip
   intro hlt
   refine Ex' (Ax (Ax (Bh (Aw (Sq (Rg ?_))))))
   refine rp 1 rfl ?_
   refine Sn (Aw (Rt ?_))
   refine at_ret1 rfl (rv_tmp rfl) ⟨_, ⟨by rw [decide_eq_false (fun h => by obtain ⟨j, hj, e⟩ := List.getElem_of_mem h; exact hne j hj (by omega) e)]; rfl, rfl⟩, ?_⟩
   try dsimp only [ca, na]
   exact ent
theorem ref_Ints (av bv : Value) (a b : List Int) (hl : a.length ≤ 2^30) : Spec PP 57 #[av, bv] [Sl eI av a, Sl eI bv b] (fun v M => v = .bool (decide (a = b)) ∧ M = [Sl eI av a, Sl eI bv b]) := by
  refine spec_of (Go.Proofs.Tryz.func57) rfl rfl rfl (by exact fc_enters_57) ?_
  intro g F
  try dsimp only [ca, na]
  refine Sq (Rg ?_)
  refine rp 1 rfl ?_
  refine Sn (Aw (Sq (Sq (Rg ?_))))
  refine rp 1 rfl ?_
  refine Wp (po_len rfl (by exact fc_slice_35_3_1)) ?_
  refine rp 1 rfl ?_
  refine Wp (po_len rfl (by exact fc_slice_35_3_1)) ?_
  refine Wp (po_ne rfl rfl) ?_
  refine Sn (Aw ?_)
  refine Rc rfl ?_ ?_
  ·skip
   intro h0
   refine Sq (Rg ?_)
   refine rp 1 rfl ?_
   refine Sn (Aw (Rt (Ar ?_)))
   refine at_ret1 rfl (rv_tmp rfl) ⟨_, ⟨by rw [decide_eq_false (fun e => h0 (by rw [e]))], rfl⟩, ?_⟩
   try dsimp only [ca, na]
   exact ent
  ·skip
   intro h0
   refine Sk (Aw (Sq (Sq (Rg ?_))))
   refine rp 1 rfl ?_
   refine Sn (Aw (Bk ?_))
   refine r_loop (S := Nat) (fun k => [(5, .int .i64 k)]) [(0, _), (1, _)] (fun k => [Sl eI av a, Sl eI bv b, F]) (fun k => k ≤ a.length ∧ a.length = b.length ∧ a.take k = b.take k) (fun k => a.length - k) (0) (And.intro rfl (And.intro rfl (trivial))) (And.intro rfl (trivial)) (⟨by omega, by omega, by simp⟩) ent ?_
   rintro k ⟨hk, hll, hne⟩
   try dsimp only [ca, na]
   refine Sq (Sq (Rg ?_))
   refine rp 2 rfl ?_
   refine Wp (po_len rfl (by exact fc_slice_35_3_1)) ?_
   refine Wp (po_lt rfl rfl) ?_
   refine Sn (Aw ?_)
   refine Rc rfl ?_ ?_
   ·skip
    intro hlt
    refine Sk (Aw (Sq (Bk (Sq ?_))))
    refine r_ord [] _ [(0, 1), (1, 1), (2, 0), (3, 0), (4, 1), (5, 1), (6, 0), (7, 0), (8, 1)] fc_mixed (by kernel_rfl) (fun _ h => h) ?_
    refine Of rfl (po_move rfl) ?_
    refine Of rfl (po_move rfl) ?_
    refine Or rfl (po_iaddr rfl rfl (by exact fc_slice_35_3_1) (by first | omega | (simp <;> omega)) (by first | omega | (simp <;> omega))) ?_
    refine Or rfl (po_load_sl rfl (List.getElem?_eq_getElem (by first | omega | (simp <;> omega))) (by exact fc_flat_3) (by rfl)) ?_
    refine Of rfl (po_move rfl) ?_
    refine Of rfl (po_move rfl) ?_
    refine Or rfl (po_iaddr rfl rfl (by exact fc_slice_35_3_1) (by first | omega | (simp <;> omega)) (by first | omega | (simp <;> omega))) ?_
    refine Or rfl (po_load_sl rfl (List.getElem?_eq_getElem (by first | omega | (simp <;> omega))) (by exact fc_flat_3) (by rfl)) ?_
    refine Of rfl (po_ne rfl rfl) ?_
    refine o_nil ?_
    refine Aw ?_
    refine Rc rfl ?_ ?_
    ·skip
     intro heq
     refine Sq (Rg ?_)
     refine rp 1 rfl ?_
     refine Sn (Aw (Rt (Br (Ar (Ar (Br (Ar ?_)))))))
     simp only [Int.toNat_natCast] at heq
     refine at_ret1 rfl (rv_tmp rfl) ⟨_, ⟨by rw [decide_eq_false (fun e => heq (by subst e; rfl))], rfl⟩, ?_⟩
     try dsimp only [ca, na]
     exact ent
    ·skip
     intro heq
     refine Sk (Bn (Aw (Rg ?_)))
     refine rp 1 rfl ?_
     refine Wp (po_add' rfl rfl (by omega) (by omega)) ?_
     refine rp 1 rfl ?_
     refine Sn ?_
     simp only [Int.toNat_natCast] at heq
     exact at_again (k + 1) (And.intro rfl (trivial)) (And.intro rfl (And.intro rfl (trivial))) (⟨by omega, hll, by rw [take_snoc a k (by omega), take_snoc b k (by omega), hne, Classical.not_not.1 heq]⟩) (by omega) ent
   ·skip
    intro hlt
    refine Ex' (Ax (Ax (Bh (Aw (Sq (Rg ?_))))))
    refine rp 1 rfl ?_
    refine Sn (Aw (Rt ?_))
    refine at_ret1 rfl (rv_tmp rfl) ⟨_, ⟨by rw [decide_eq_true (by rw [List.take_of_length_le (by omega), List.take_of_length_le (by omega)] at hne; exact hne)], rfl⟩, ?_⟩
    try dsimp only [ca, na]
    exact ent
theorem ref_MayTile (tc : Value) (t : Tile) (hl : t.c.length ≤ 2^30) : Spec PP 53 #[tileV tc t] [Sl eB tc t.c] (fun v M => v = .bool (decide (MayT t)) ∧ M = [Sl eB tc t.c]) := by
  refine spec_of (Go.Proofs.Tryz.func53) rfl rfl rfl (by exact fc_enters_53) ?_
  intro g F
  try dsimp only [ca, na]
  refine Sq (Rg ?_)
  refine Wx (xo_box rfl rfl) ?_
  rintro _ _ ⟨b1, rfl, rfl⟩
  refine rp 1 rfl ?_
  refine Sn (Aw (Sq (Sq (Rg ?_))))
  refine Wp (po_faddr rfl (by exact fc_field_41_0_0)) ?_
  refine Wp (po_load rfl (by exact fc_flat_3) (by rfl)) ?_
  refine Wc (co_fn rfl rfl) (ref_In t.w 1 16) ?_
  rintro v5 _ ⟨rfl, rfl⟩
  try dsimp only [ca, na]
  refine Wp (po_not rfl) ?_
  by_cases h1 : 1 ≤ t.w ∧ t.w ≤ 16
  ·skip
   refine ws (st_po (po_bf (po_move rfl) (by simp only [decide_eq_true h1]; simp)) rfl rfl rfl ?_)
   refine Wp (po_faddr rfl (by exact fc_field_41_1_1)) ?_
   refine Wp (po_load rfl (by exact fc_flat_3) (by rfl)) ?_
   refine Wc (co_fn rfl rfl) (ref_In t.h 1 16) ?_
   rintro v10 _ ⟨rfl, rfl⟩
   try dsimp only [ca, na]
   refine Wp (po_not rfl) ?_
   refine rp 1 rfl ?_
   by_cases h2 : 1 ≤ t.h ∧ t.h ≤ 16
   ·skip
    refine ws (st_po (po_bf (po_move rfl) (by simp only [decide_eq_true h2]; simp)) rfl rfl rfl ?_)
    have hb := mul_1k (a := t.w) (b := t.h) (by omega) (by omega) (by omega) (by omega)
    refine Wp (po_faddr rfl (by exact fc_field_41_2_2)) ?_
    refine Wp (po_load rfl (by exact fc_flat_22) (by rfl)) ?_
    refine Wp (po_len rfl (by exact fc_slice_22_5_1)) ?_
    refine Wp (po_faddr rfl (by exact fc_field_41_0_0)) ?_
    refine Wp (po_load rfl (by exact fc_flat_3) (by rfl)) ?_
    refine Wp (po_faddr rfl (by exact fc_field_41_1_1)) ?_
    refine Wp (po_load rfl (by exact fc_flat_3) (by rfl)) ?_
    refine Wp (po_mul' rfl rfl (by omega) (by omega)) ?_
    refine Wp (po_ne rfl rfl) ?_
    refine rp 1 rfl ?_
    refine Sn (Aw ?_)
    refine Rc rfl ?_ ?_
    ·skip
     intro h3
     refine Sq (Rg ?_)
     refine rp 1 rfl ?_
     refine Sn (Aw (Rt (Ar ?_)))
     refine at_ret1 rfl (rv_tmp rfl) ⟨_, ⟨by rw [decide_eq_false (fun k => h3 k.2.2.1)], rfl⟩, ?_⟩
     try dsimp only [ca, na]
     exact ent
    ·skip
     intro h3
     refine Sk (Aw (Sq (Rg ?_)))
     refine Wp (po_faddr rfl (by exact fc_field_41_2_2)) ?_
     refine Wp (po_load rfl (by exact fc_flat_22) (by rfl)) ?_
     refine Wc (co_fn rfl rfl) (ref_full tc t.c hl) ?_
     rintro v26 _ ⟨rfl, rfl⟩
     try dsimp only [ca, na]
     refine rp 1 rfl ?_
     refine Sn (Aw (Rt ?_))
     refine at_ret1 rfl (rv_tmp rfl) ⟨_, ⟨by by_cases h4 : (0 : Int) ∈ t.c; (rw [decide_eq_true h4, decide_eq_false (fun k => k.2.2.2 h4)]; rfl); (rw [decide_eq_false h4, decide_eq_true (show MayT t from ⟨h1, h2, Classical.not_not.1 h3, h4⟩)]; rfl), rfl⟩, ?_⟩
     try dsimp only [ca, na]
     exact ent
   ·skip
    refine ws (st_po (po_bt (po_move rfl) (by simp only [decide_eq_false h2]; simp)) rfl rfl rfl ?_)
    refine rp 10 rfl ?_
    refine Sn (Aw ?_)
    refine r_cond_t rfl rfl ?_
    refine Sq (Rg ?_)
    refine rp 1 rfl ?_
    refine Sn (Aw (Rt (Ar ?_)))
    refine at_ret1 rfl (rv_tmp rfl) ⟨_, ⟨by rw [decide_eq_false (fun k => h2 k.2.1)], rfl⟩, ?_⟩
    try dsimp only [ca, na]
    exact ent
  ·skip
   refine ws (st_po (po_bt (po_move rfl) (by simp only [decide_eq_false h1]; simp)) rfl rfl rfl ?_)
   refine rp 16 rfl ?_
   refine Sn (Aw ?_)
   refine r_cond_t rfl rfl ?_
   refine Sq (Rg ?_)
   refine rp 1 rfl ?_
   refine Sn (Aw (Rt (Ar ?_)))
   refine at_ret1 rfl (rv_tmp rfl) ⟨_, ⟨by rw [decide_eq_false (fun k => h1 k.1)], rfl⟩, ?_⟩
   try dsimp only [ca, na]
   exact ent
end Hd
end
section
namespace Hd
set_option maxRecDepth 100000
open Go

theorem ref_Near (tc : Value) (t : Tile) (l k : Int) (hl : t.c.length ≤ 2^30) (hm : MayT t) (h0 : 0 ≤ l ∧ l < t.c.length) : Spec PP 54 #[tileV tc t, .int .i64 l, .int .i64 k] [Sl eB tc t.c] (fun v M => v = .int .i64 (stepN t.w t.h l k) ∧ M = [Sl eB tc t.c]) := by
  refine spec_of (Go.Proofs.Tryz.func54) rfl rfl rfl (by exact fc_enters_54) ?_
  intro g F
  try dsimp only [ca, na]
  refine Sq (Rg ?_)
  refine Wx (xo_box rfl rfl) ?_
  rintro _ _ ⟨b3, rfl, rfl⟩
  refine rp 1 rfl ?_
  refine Sn (Aw (Sq (Sq (Rg ?_))))
  refine Wp (po_loada rfl (by exact fc_agg_41_3) (by rfl)) ?_
  refine Wc (co_fn rfl rfl) (ref_MayTile tc t hl) ?_
  rintro v8 _ ⟨rfl, rfl⟩
  try dsimp only [ca, na]
  refine Wp (po_not rfl) ?_
  refine Wp (po_bf (po_move rfl) (by simp [hm])) ?_
  refine rp 1 rfl ?_
  refine Wp (po_faddr rfl (by exact fc_field_41_2_2)) ?_
  refine Wp (po_load rfl (by exact fc_flat_22) (by rfl)) ?_
  refine Wp (po_len rfl (by exact fc_slice_22_5_1)) ?_
  refine Wp (po_sub' rfl rfl (by omega) (by omega)) ?_
  refine Wc (co_fn rfl rfl) (ref_In l 0 (t.c.length - 1)) ?_
  rintro v16 _ ⟨rfl, rfl⟩
  try dsimp only [ca, na]
  refine Wp (po_not rfl) ?_
  refine rp 1 rfl ?_
  refine Sn (Aw ?_)
  first | refine r_dec_f rfl (by omega) ?_ | refine r_nd_f rfl (by omega) ?_ | refine r_cond_f rfl (by omega) ?_
  refine Sk (Aw (Sq (Rg ?_)))
  refine Wp (po_faddr rfl (by exact fc_field_41_0_0)) ?_
  refine Wp (po_load rfl (by exact fc_flat_3) (by rfl)) ?_
  refine Wp (po_faddr rfl (by exact fc_field_41_1_1)) ?_
  refine Wp (po_load rfl (by exact fc_flat_3) (by rfl)) ?_
  refine rp 2 rfl ?_
  refine Wc (co_fn rfl rfl) (ref_Step t.w t.h l k) ?_
  rintro v25 _ ⟨rfl, rfl⟩
  try dsimp only [ca, na]
  refine rp 1 rfl ?_
  refine Sn (Aw (Rt ?_))
  refine at_ret1 rfl (rv_tmp rfl) ⟨_, ⟨rfl, rfl⟩, ?_⟩
  try dsimp only [ca, na]
  exact ent

theorem seed_ext {a b : List Seed} {i j : Nat} {hi : i < a.length} {hj : j < b.length} (h : a[i].cell = b[j].cell ∧ a[i].side = b[j].side ∧ a[i].key = b[j].key) : a[i] = b[j] := by
  generalize a[i] = x at *
  generalize b[j] = y at *
  cases x; cases y; simp_all
theorem ref_SameSeeds (av bv : Value) (a b : List Seed) (hl : a.length ≤ 2^30) : Spec PP 15 #[av, bv] [Sl eS av a, Sl eS bv b] (fun v M => v = .bool (decide (a = b)) ∧ M = [Sl eS av a, Sl eS bv b]) := by
  refine spec_of (Go.Proofs.Tryz.func15) rfl rfl rfl (by exact fc_enters_15) ?_
  intro g F
  try dsimp only [ca, na]
  refine Sq (Rg ?_)
  refine rp 1 rfl ?_
  refine Sn (Aw (Sq (Sq (Rg ?_))))
  refine rp 1 rfl ?_
  refine Wp (po_len rfl (by exact fc_slice_32_45_3)) ?_
  refine rp 1 rfl ?_
  refine Wp (po_len rfl (by exact fc_slice_32_45_3)) ?_
  refine Wp (po_ne rfl rfl) ?_
  refine Sn (Aw ?_)
  refine Rc rfl ?_ ?_
  ·skip
   intro h0
   refine Sq (Rg ?_)
   refine rp 1 rfl ?_
   refine Sn (Aw (Rt (Ar ?_)))
   refine at_ret1 rfl (rv_tmp rfl) ⟨_, ⟨by rw [decide_eq_false (fun e => h0 (by rw [e]))], rfl⟩, ?_⟩
   try dsimp only [ca, na]
   exact ent
  ·skip
   intro h0
   refine Sk (Aw (Sq (Sq (Rg ?_))))
   refine rp 1 rfl ?_
   refine Sn (Aw (Bk ?_))
   refine r_loop (S := Nat) (fun k => [(5, .int .i64 k)]) [(0, _), (1, _)] (fun k => [Sl eS av a, Sl eS bv b, F]) (fun k => k ≤ a.length ∧ a.length = b.length ∧ a.take k = b.take k) (fun k => a.length - k) (0) (And.intro rfl (And.intro rfl (trivial))) (And.intro rfl (trivial)) (⟨by omega, by omega, by simp⟩) ent ?_
   rintro k ⟨hk, hll, hne⟩
   try dsimp only [ca, na]
   refine Sq (Sq (Rg ?_))
   refine rp 2 rfl ?_
   refine Wp (po_len rfl (by exact fc_slice_32_45_3)) ?_
   refine Wp (po_lt rfl rfl) ?_
   refine Sn (Aw ?_)
   refine Rc rfl ?_ ?_
   ·skip
    intro hlt
    refine Sk (Aw (Sq (Bk (Sq ?_))))
    refine r_ord [] _ [(0, 1), (1, 1), (2, 0), (3, 0), (4, 1), (5, 1), (6, 0), (7, 0), (8, 1)] fc_mixed (by kernel_rfl) (fun _ h => h) ?_
    refine Of rfl (po_move rfl) ?_
    refine Of rfl (po_move rfl) ?_
    refine Or rfl (po_iaddr rfl rfl (by exact fc_slice_32_45_3) (by first | omega | (simp <;> omega)) (by first | omega | (simp <;> omega))) ?_
    refine Or rfl (ld_eS rfl (List.getElem?_eq_getElem (by first | omega | (simp <;> omega))) (by exact fc_agg_45_3)) ?_
    refine Of rfl (po_move rfl) ?_
    refine Of rfl (po_move rfl) ?_
    refine Or rfl (po_iaddr rfl rfl (by exact fc_slice_32_45_3) (by first | omega | (simp <;> omega)) (by first | omega | (simp <;> omega))) ?_
    refine Or rfl (ld_eS rfl (List.getElem?_eq_getElem (by first | omega | (simp <;> omega))) (by exact fc_agg_45_3)) ?_
    refine Of rfl (po_st3ne rfl rfl (by exact fc_st3_45)) ?_
    refine o_nil ?_
    refine Aw ?_
    refine Rc rfl ?_ ?_
    ·skip
     intro heq
     refine Sq (Rg ?_)
     refine rp 1 rfl ?_
     refine Sn (Aw (Rt (Br (Ar (Ar (Br (Ar ?_)))))))
     simp only [Int.toNat_natCast] at heq
     refine at_ret1 rfl (rv_tmp rfl) ⟨_, ⟨by rw [decide_eq_false (fun e => heq (by subst e; exact ⟨rfl, rfl, rfl⟩))], rfl⟩, ?_⟩
     try dsimp only [ca, na]
     exact ent
    ·skip
     intro heq
     refine Sk (Bn (Aw (Rg ?_)))
     refine rp 1 rfl ?_
     refine Wp (po_add' rfl rfl (by omega) (by omega)) ?_
     refine rp 1 rfl ?_
     refine Sn ?_
     simp only [Int.toNat_natCast] at heq
     exact at_again (k + 1) (And.intro rfl (trivial)) (And.intro rfl (And.intro rfl (trivial))) (⟨by omega, hll, by rw [take_snoc a k (by omega), take_snoc b k (by omega), hne, seed_ext heq]⟩) (by omega) ent
   ·skip
    intro hlt
    refine Ex' (Ax (Ax (Bh (Aw (Sq (Rg ?_))))))
    refine rp 1 rfl ?_
    refine Sn (Aw (Rt ?_))
    refine at_ret1 rfl (rv_tmp rfl) ⟨_, ⟨by rw [decide_eq_true (by rw [List.take_of_length_le (by omega), List.take_of_length_le (by omega)] at hne; exact hne)], rfl⟩, ?_⟩
    try dsimp only [ca, na]
    exact ent
end Hd
end
section
namespace Hd
open Go Go.RowKit
/-! ## what came from outside: it is read, and stays -/
/-- v can be read as the list xs -/
def Reads {α : Type} (E : Enc α) (v : Value) (xs : List α) (h : Frag) : Prop :=
  (v = .slice none 0 0 ∧ xs = []) ∨ ∃ b off cap, v = .slice (some ⟨b, off, none⟩) xs.length cap ∧ xs.length ≤ cap ∧ ∀ j u, (xs.flatMap E.f)[j]? = some u → ∃ c T fr, h b = some (.cells c T fr) ∧ c[off + j]? = some u
/-- all that was there -/
def Old (h0 : Frag) : HP := fun h => ∀ b o, h0 b = some o → h b = some o
instance Rd.next {α : Type} (A B : HP) (L : List HP) (v : Value) (E : Enc α) (xs : List α) [m : Rd (B :: L) v α E xs] : Rd (A :: B :: L) v α E xs := ⟨fun h hs => m.out h (sat_drop hs)⟩
theorem rd_only {α : Type} {A : HP} {L : List HP} {v : Value} {E : Enc α} {xs : List α} (m : Rd [A] v α E xs) : Rd (A :: L) v α E xs := ⟨fun h hs => by
  obtain ⟨h1, h2, j, ha, hl⟩ := hs
  exact m.out h ⟨h1, h2, j, ha, trivial⟩⟩
instance (priority := low) Rd.only {α : Type} (A B : HP) (L : List HP) (v : Value) (E : Enc α) (xs : List α) [m : Rd [A] v α E xs] : Rd (A :: B :: L) v α E xs := rd_only m
/-- a slice that came from outside -/
def Ins {α : Type} (h0 : Frag) (E : Enc α) (v : Value) (xs : List α) : HP := fun h => Old h0 h ∧ Reads E v xs h0
theorem Ins.rd {α : Type} {h0 : Frag} {E : Enc α} {v : Value} {xs : List α} : Rd [Ins h0 E v xs] v α E xs := ⟨fun h hs => by
  obtain ⟨h1, h2, j, ⟨hk, hr⟩, -⟩ := hs
  rcases hr with a | ⟨b, off, cap, e1, e2, e3⟩
  · exact .inl a
  · refine .inr ⟨b, off, cap, e1, e2, fun i u hu => ?_⟩
    obtain ⟨c, T, fr, e4, e5⟩ := e3 i u hu
    exact ⟨c, T, fr, j.sub_left b _ (hk b _ e4), e5⟩⟩
theorem Fit.below {g : Gl} {A : HP} {L : List HP} {w w' : World} (hg : g = ⟨w.os, w.tape, w.output, w.drawn⟩) (hA : ∀ h, A h → Old (frag w) h) (f : Fit g (A :: L) w') : Below w.heap.size w w' := by
  subst hg
  obtain ⟨h1, h2, j, ha, -⟩ := f.sat
  have hk : ∀ b o, w.heap[b]? = some o → w'.heap[b]? = some o := fun b o e => j.sub_left b o (hA _ ha b o e)
  refine ⟨f.os, f.tape, f.output, ?_, fun k hlt => ?_⟩
  · rcases Nat.lt_or_ge w'.heap.size w.heap.size with hlt | hge
    · have := hk w'.heap.size w.heap[w'.heap.size] (by simp [hlt])
      simp at this
    · exact hge
  · rw [hk k w.heap[k] (by simp [hlt])]; simp [hlt]
end Hd
end
section
namespace Hd
set_option maxRecDepth 100000
open Go

/-- a map that was made -/
structure MadeOk (w h : Int) (c : List Int) : Prop where
  wb : 1 ≤ w ∧ w ≤ 40
  hb : 1 ≤ h ∧ h ≤ 40
  len : (c.length : Int) = w * h
  bt : ∀ x ∈ c, 1 ≤ x ∧ x ≤ 255
theorem MadeOk.may {w h : Int} {c : List Int} (k : MadeOk w h c) : MayM w h c := ⟨⟨⟨k.wb.1, by have := k.wb.2; omega⟩, ⟨k.hb.1, by have := k.hb.2; omega⟩⟩, k.len, fun h0 => by have := k.bt 0 h0; omega⟩
theorem costB_rng {x : Int} (h0 : 0 ≤ x) (h1 : x ≤ 255) : 1 ≤ costB x ∧ costB x ≤ 255 := by
  unfold costB
  split
  · omega
  · split <;> omega
theorem ref_Made (K : HP) (w h : Int) (cv : Value) (c : List Int) [Rd [K] cv Int eB c] (hc : ∀ x ∈ c, 0 ≤ x ∧ x ≤ 255) : Spec PP 7 #[.int .i64 w, .int .i64 h, cv] [K]
    (fun v M => ∃ w' h' mv C, v = mapV w' h' mv ∧ M = [K, Sl eB mv C] ∧ MadeOk w' h' C) := by
  have hw : 1 ≤ 1 + w % (40 - 1 + 1) ∧ 1 + w % (40 - 1 + 1) ≤ 40 := by omega
  have hh : 1 ≤ 1 + h % (40 - 1 + 1) ∧ 1 + h % (40 - 1 + 1) ≤ 40 := by omega
  generalize hw' : 1 + w % (40 - 1 + 1) = W at hw
  generalize hh' : 1 + h % (40 - 1 + 1) = H at hh
  have hm := mul_1k (a := W) (b := H) (by omega) (by omega) (by omega) (by omega)
  refine spec_of (Go.Proofs.Tryz.func7) rfl rfl rfl (by exact fc_enters_7) ?_
  intro g F
  try dsimp only [ca, na, GridS.l, GridS.p, MeshS.l, MeshS.lF, MeshS.p, FinderS.l, FinderS.p, FinderS.lF, RouteS.l, RouteS.p, GridS.lT, RouteS.lT]
  refine Sq (Rg ?_)
  refine Wx (xo_alloc (by exact fc_zero_24)) ?_
  rintro _ _ ⟨b6, rfl, rfl⟩
  refine Sn (Aw (Sq (Rg ?_)))
  refine rp 1 rfl ?_
  refine Wc (co_fn rfl rfl) (ref_Within w 1 40 (by omega) (by omega) (by omega)) ?_
  rintro v12 _ ⟨rfl, rfl⟩
  try dsimp only [ca, na, GridS.l, GridS.p, MeshS.l, MeshS.lF, MeshS.p, FinderS.l, FinderS.p, FinderS.lF, RouteS.l, RouteS.p, GridS.lT, RouteS.lT]
  refine rp 1 rfl ?_
  refine Wc (co_fn rfl rfl) (ref_Within h 1 40 (by omega) (by omega) (by omega)) ?_
  rintro v14 _ ⟨rfl, rfl⟩
  try dsimp only [ca, na, GridS.l, GridS.p, MeshS.l, MeshS.lF, MeshS.p, FinderS.l, FinderS.p, FinderS.lF, RouteS.l, RouteS.p, GridS.lT, RouteS.lT]
  rw [hw', hh']
  refine Wp (po_build1 rfl (by exact fc_zero_24) (by exact fc_places_24_0_1) (by exact fc_info_24) rfl) ?_
  refine Wx (xo_alloc (by exact fc_zero_24)) ?_
  rintro _ _ ⟨b7, rfl, rfl⟩
  refine Ws (so_storea1 rfl rfl (by exact fc_agg_24_3) rfl rfl) ?_
  refine Sn (Aw (Sq (Sq (Rg ?_))))
  refine rp 1 rfl ?_
  refine Sn (Aw (Bk ?_))
  refine r_loop (S := Nat × Value × List Int) (fun ⟨i, mv, C⟩ => [(8, .int .i64 i)]) [(2, _), (6, _), (7, _)] (fun ⟨i, mv, C⟩ => [Blk b7 24 [.int .i64 W, .int .i64 H, mv], Sl eB mv C, Blk b6 24 [.int .i64 0, .int .i64 0, .slice none 0 0], K, F]) (fun ⟨i, mv, C⟩ => (i : Int) ≤ W * H ∧ C.length = i ∧ ∀ x ∈ C, 1 ≤ x ∧ x ≤ 255) (fun ⟨i, mv, C⟩ => (W * H).toNat - i) ((0, .slice none 0 0, [])) (And.intro rfl (And.intro rfl (And.intro rfl (trivial)))) (And.intro rfl (trivial)) (⟨by omega, rfl, by simp⟩) ent ?_
  rintro ⟨i, mv, C⟩ ⟨hi, hCl, hCb⟩
  try dsimp only [ca, na, GridS.l, GridS.p, MeshS.l, MeshS.lF, MeshS.p, FinderS.l, FinderS.p, FinderS.lF, RouteS.l, RouteS.p, GridS.lT, RouteS.lT]
  refine Sq (Sq (Rg ?_))
  refine rp 1 rfl ?_
  refine Wp (po_faddr rfl (by exact fc_field_24_0_0)) ?_
  refine Wp (po_load rfl (by exact fc_flat_3) (by rfl)) ?_
  refine Wp (po_faddr rfl (by exact fc_field_24_1_1)) ?_
  refine Wp (po_load rfl (by exact fc_flat_3) (by rfl)) ?_
  refine Wp (po_mul' rfl rfl (by omega) (by omega)) ?_
  refine Wp (po_lt rfl rfl) ?_
  refine Sn (Aw ?_)
  refine Rc rfl ?_ ?_
  ·skip
   intro hlt
   have hq : 0 ≤ (i : Int) / c.length ∧ (i : Int) / c.length ≤ i := ⟨Int.ediv_nonneg (by omega) (by omega), Int.ediv_le_self _ (by omega)⟩
   refine Sk (Aw (Sq (Bk (Sq (Rg ?_)))))
   refine rp 1 rfl ?_
   refine Sn (Aw ?_)
   refine r_joink (S := Int) (fun x => [(9, .int .u8 x)]) [(2, _), (6, _), (7, _), (8, _)] (fun x => [Blk b7 24 [.int .i64 W, .int .i64 H, mv], Sl eB mv C, Blk b6 24 [.int .i64 0, .int .i64 0, .slice none 0 0], K, F]) (fun x => 0 ≤ x ∧ x ≤ 255) (And.intro rfl (And.intro rfl (And.intro rfl (And.intro rfl (trivial))))) ?_ ?_
   ·skip
    refine Sq (Rg ?_)
    refine rp 1 rfl ?_
    refine Wp (po_len rfl (by exact fc_slice_22_5_1)) ?_
    refine rp 1 rfl ?_
    refine Sn (Aw (Sq (Rg ?_)))
    refine rp 1 rfl ?_
    refine Wp (po_gt rfl rfl) ?_
    refine Sn (Aw ?_)
    refine Rc rfl ?_ ?_
    ·skip
     intro hn
     have hr : 0 ≤ ((i : Int) + (i : Int) / c.length * 5) % c.length ∧ ((i : Int) + (i : Int) / c.length * 5) % c.length < c.length := ⟨Int.emod_nonneg _ (by omega), Int.emod_lt_of_pos _ (by omega)⟩
     refine Rg ?_
     refine rp 4 rfl ?_
     refine Wp (po_quo' rfl rfl (by omega) (by omega) (by omega)) ?_
     refine Wp (po_mul' rfl rfl (by omega) (by omega)) ?_
     refine Wp (po_add' rfl rfl (by omega) (by omega)) ?_
     refine rp 1 rfl ?_
     refine Wp (po_rem' rfl rfl (by omega) (by omega)) ?_
     refine Wp (po_iaddr rfl rfl (by exact fc_slice_22_5_1) (by first | omega | (simp <;> omega)) (by first | omega | (simp <;> omega))) ?_
     refine Wp (po_load_sl rfl (List.getElem?_eq_getElem (by first | omega | (simp <;> omega))) (by exact fc_flat_5) (by rfl)) ?_
     refine rp 1 rfl ?_
     refine Sn ?_
     have hxm := hc _ (List.getElem_mem (show (((i : Int) + (i : Int) / c.length * 5) % c.length).toNat < c.length by omega))
     exact at_join ((c[(((i : Int) + (i : Int) / c.length * 5) % c.length).toNat]'(by omega))) (And.intro rfl (trivial)) (And.intro rfl (And.intro rfl (And.intro rfl (And.intro rfl (trivial))))) (hxm) ent
    ·skip
     intro hn
     refine Sk ?_
     exact at_join (1) (And.intro rfl (trivial)) (And.intro rfl (And.intro rfl (And.intro rfl (And.intro rfl (trivial))))) (by omega) ent
   ·skip
    rintro x hx
    try dsimp only [ca, na, GridS.l, GridS.p, MeshS.l, MeshS.lF, MeshS.p, FinderS.l, FinderS.p, FinderS.lF, RouteS.l, RouteS.p, GridS.lT, RouteS.lT]
    refine r_ord [5, 7] _ [(0, 1), (1, 0), (2, 1), (3, 2), (4, 2), (5, 2), (6, 1), (7, 2)] fc_mixed (by kernel_rfl) (fun _ h => h) ?_
    refine Of rfl (po_faddr rfl (by exact fc_field_24_2_2)) ?_
    refine Or rfl (po_load rfl (by exact fc_flat_22) (by rfl)) ?_
    refine Of rfl (po_move rfl) ?_
    refine o_st rfl (st_call (co_fn rfl rfl) (ref_Cost x hx.1 hx.2) (by infer_instance) rfl rfl rfl ?_)
    rintro v43 _ ⟨rfl, rfl⟩
    try dsimp only [ca, na, GridS.l, GridS.p, MeshS.l, MeshS.lF, MeshS.p, FinderS.l, FinderS.p, FinderS.lF, RouteS.l, RouteS.p, GridS.lT, RouteS.lT]
    refine ⟨fun _ => (by first | exact fun _ h => h | exact ent), ?_⟩
    have hcb := costB_rng hx.1 hx.2
    refine o_st rfl (st_xo (xo_bslice eB [_] rfl (by exact fc_slice_22_5_1) (by exact fc_elem_5_1_1) ⟨rfl, rfl, trivial⟩ rfl (by decide)) rfl rfl rfl ?_)
    rintro v44 _ rfl
    refine ⟨fun _ => (by first | exact fun _ h => h | exact ent), ?_⟩
    refine o_st rfl (st_xo (xo_append rfl rfl (by exact fc_slice_22_5_1) (by exact fc_slice_22_5_1) (by exact fc_elem_5_1_1) (by first | omega | (simp <;> omega)) (by first | omega | (simp <;> omega))) rfl rfl rfl ?_)
    rintro v45 _ rfl
    refine ⟨fun h => late_no h (by kernel_rfl), ?_⟩
    refine Of rfl (po_faddr rfl (by exact fc_field_24_2_2)) ?_
    refine o_st rfl (st_so (so_store1 rfl rfl (by exact fc_flat_22) rfl) rfl rfl ?_)
    refine ⟨fun h => late_no h (by kernel_rfl), ?_⟩
    refine o_nil ?_
    refine Bn (Aw (Rg ?_))
    refine rp 1 rfl ?_
    refine Wp (po_add' rfl rfl (by omega) (by omega)) ?_
    refine rp 1 rfl ?_
    refine Sn ?_
    exact at_again ((i + 1, v45, C ++ [costB x])) (And.intro rfl (trivial)) (And.intro rfl (And.intro rfl (And.intro rfl (trivial)))) (⟨by omega, by simp [hCl], fun y hy => by rcases List.mem_append.1 hy with h | h; exact hCb y h; (rw [List.mem_singleton] at h; rw [h]; exact hcb)⟩) (by omega) ent
  ·skip
   intro hlt
   refine Ex' (Ax (Ax (Bh (Aw (Sq (Rg ?_))))))
   refine Wp (po_loada rfl (by exact fc_agg_24_3) (by rfl)) ?_
   refine Ws (so_storea1 rfl rfl (by exact fc_agg_24_3) rfl rfl) ?_
   refine Sn (Aw (Rt ?_))
   refine at_ret1 rfl (rv_cella rfl (by exact fc_agg_24_3) (by rfl)) ⟨_, ⟨W, H, mv, C, rfl, rfl, ⟨hw, hh, by omega, hCb⟩⟩, ?_⟩
   try dsimp only [ca, na, GridS.l, GridS.p, MeshS.l, MeshS.lF, MeshS.p, FinderS.l, FinderS.p, FinderS.lF, RouteS.l, RouteS.p, GridS.lT, RouteS.lT]
   exact ent
theorem grid_ok {s : GridS} {w h : Int} {c : List Int} {ep : Int} (hm : MadeOk w h c) (h1 : s.w = w) (h2 : s.h = h) (h3 : s.c = c) (h4 : s.ep = ep) (h5 : 0 ≤ ep ∧ ep ≤ 4611686018427387904) (h6 : s.vs = List.replicate ((secsN w h).1 * (secsN w h).2).toNat ep) : GridOk s := by
  have hM := hm.may
  refine ⟨by rw [h1, h2]; exact hM.1, by rw [h1, h2, h3]; exact hM.2.1, by rw [h3]; exact hm.bt, ?_, by omega, by omega⟩
  have e : secsN w h = (acrN w, acrN h) := by rw [secsN, if_pos hM.1]
  have := secs_mul w h
  rw [e] at this h6
  dsimp only at this h6
  rw [h6, List.length_replicate, h1, h2]
  omega
theorem law16_found (w h : Int) (mv : Value) (C : List Int) (hm : MadeOk w h C) (t : Int) (ht : IsC w h t) : Spec PP 9 #[mapV w h mv, .int .i64 t] [Sl eB mv C]
    (fun v M => ∃ (f : FinderS) (r : RouteS), v = .tuple #[f.m.g.p, r.p] ∧ M = Sl eB mv C :: (f.l r.p ++ r.l) ∧ GridOk f.m.g ∧ f.m.g.w = w ∧ f.m.g.h = h ∧ f.m.g.c = C ∧ f.m.g.ep = 1 ∧ r.ep = 1 ∧ r.goal = t ∧ RouteOk f.m.g r ∧ ∀ v ∈ f.m.g.vs, 1 ≤ v ∧ v ≤ 1) := by
  refine spec_of (Go.Proofs.Tryz.func9) rfl rfl rfl (by exact fc_enters_9) ?_
  intro g F
  try dsimp only [ca, na, GridS.l, GridS.p, MeshS.l, MeshS.lF, MeshS.p, FinderS.l, FinderS.p, FinderS.lF, RouteS.l, RouteS.p, GridS.lT, RouteS.lT]
  refine Sq (Rg ?_)
  refine Wx (xo_box rfl rfl) ?_
  rintro _ _ ⟨b2, rfl, rfl⟩
  refine rp 2 rfl ?_
  refine Sn (Aw (Sq (Rg ?_)))
  refine Wp (po_loada rfl (by exact fc_agg_24_3) (by rfl)) ?_
  refine Wc (co_fn rfl rfl) (grid_New w h 0 mv C hm.may (by omega) (by omega)) ?_
  rintro v10 _ ⟨s, rfl, rfl, hw, hh, hc, hep, hvs⟩
  try dsimp only [ca, na, GridS.l, GridS.p, MeshS.l, MeshS.lF, MeshS.p, FinderS.l, FinderS.p, FinderS.lF, RouteS.l, RouteS.p, GridS.lT, RouteS.lT]
  have ok : GridOk s := grid_ok hm hw hh hc hep (by omega) hvs
  have hv1 : ∀ v ∈ s.vs, 1 ≤ v ∧ v ≤ 1 := fun v hv => by rw [hvs] at hv; have := List.eq_of_mem_replicate hv; omega
  refine rp 1 rfl ?_
  refine Sn (Aw (Sq (Rg ?_)))
  refine rp 1 rfl ?_
  refine Wc (co_fn rfl rfl) (mesh_New s ok (fun v hv => by have := hv1 v hv; omega)) ?_
  rintro v12 _ ⟨m, rfl, rfl, rfl, okm⟩
  try dsimp only [ca, na, GridS.l, GridS.p, MeshS.l, MeshS.lF, MeshS.p, FinderS.l, FinderS.p, FinderS.lF, RouteS.l, RouteS.p, GridS.lT, RouteS.lT]
  refine rp 1 rfl ?_
  refine Wc (co_fn rfl rfl) (route_New m) ?_
  rintro v14 _ ⟨f, rfl, rfl, rfl, hfc⟩
  try dsimp only [ca, na, GridS.l, GridS.p, MeshS.l, MeshS.lF, MeshS.p, FinderS.l, FinderS.p, FinderS.lF, RouteS.l, RouteS.p, GridS.lT, RouteS.lT]
  refine rp 1 rfl ?_
  refine Sn (Aw (Sq (Sq (Rg ?_))))
  refine rp 1 rfl ?_
  refine Wp (po_peq rfl rfl (by exact fc_ptr_27)) ?_
  refine Wp (po_bf (po_move rfl) (rfl)) ?_
  refine rp 1 rfl ?_
  refine Wp (po_peq rfl rfl (by exact fc_ptr_61)) ?_
  refine rp 1 rfl ?_
  refine Sn (Aw ?_)
  first | refine r_dec_f rfl (by simp) ?_ | refine r_nd_f rfl (by simp) ?_ | refine r_cond_f rfl (by simp) ?_
  refine Sk (Aw (Sq (Rg ?_)))
  refine rp 2 rfl ?_
  refine Wc (co_fn rfl rfl) (route_Find1 f okm t (by rw [hw, hh]; exact ht) (by omega)) ?_
  rintro v23 _ ⟨f', r, rfl, rfl, hg, he, hro, okm', hgr, -⟩
  try dsimp only [ca, na, GridS.l, GridS.p, MeshS.l, MeshS.lF, MeshS.p, FinderS.l, FinderS.p, FinderS.lF, RouteS.l, RouteS.p, GridS.lT, RouteS.lT]
  refine rp 1 rfl ?_
  refine Sn (Aw (Sq (Sq (Rg ?_))))
  refine rp 1 rfl ?_
  refine Wp (po_peq rfl rfl (by exact fc_ptr_28)) ?_
  refine Sn (Aw ?_)
  first | refine r_dec_f rfl (by simp) ?_ | refine r_nd_f rfl (by simp) ?_ | refine r_cond_f rfl (by simp) ?_
  refine Sk (Aw (Sq (Rg ?_)))
  refine rp 4 rfl ?_
  refine Sn (Aw (Rt ?_))
  refine at_ret2 rfl (rv_tmp rfl) (rv_tmp rfl) ⟨_, ⟨f', r, by rw [hgr], rfl, by rw [hgr]; exact ok, by rw [hgr]; exact hw, by rw [hgr]; exact hh, by rw [hgr]; exact hc, by rw [hgr]; exact hep, by rw [he]; exact hep, hg, by rw [hgr]; exact hro, by rw [hgr]; exact hv1⟩, ?_⟩
  try dsimp only [ca, na, GridS.l, GridS.p, MeshS.l, MeshS.lF, MeshS.p, FinderS.l, FinderS.p, FinderS.lF, RouteS.l, RouteS.p, GridS.lT, RouteS.lT]
  exact ent
/-! ## two sectors in a row -/
def lineC : List Int := List.replicate 17 1
theorem line_opn {c : Int} : Opn lineC c ↔ 0 ≤ c ∧ c < 17 := by
  unfold Opn lineC
  constructor
  · rintro ⟨h1, h2, _⟩; simp at h2; omega
  · rintro ⟨h1, h2⟩
    refine ⟨h1, by simp; omega, ?_⟩
    rw [gAt_get (by simp; omega)]
    show ¬ (List.replicate 17 (1 : Int))[c.toNat]'(by simp; omega) = 255
    rw [List.getElem_replicate]; decide
theorem line_flat {g : GridS} (ok : GridOk g) (hw : g.w = 17) (hh : g.h = 1) (hc : g.c = lineC) {c : Int} (h : 0 ≤ c ∧ c < 17) : flD g 0 c = c := by
  have hI : INF = 1099511627776 := rfl
  have his : ∀ {c : Int}, IsC 17 1 c ↔ 0 ≤ c ∧ c < 17 := fun {c} => ⟨fun k => by have := k.2; omega, fun k => ⟨by decide, by omega⟩⟩
  have hop : ∀ {c : Int}, OpC g.w g.h g.c c ↔ 0 ≤ c ∧ c < 17 := fun {c} => by
    rw [hw, hh, hc]; exact ⟨fun k => line_opn.1 k.1, fun k => ⟨line_opn.2 k, his.2 k⟩⟩
  have hco : ∀ {m : Int}, 0 ≤ m ∧ m < 17 → gAt g.c m = 1 := fun {m} k => by
    rw [hc, gAt_get (by unfold lineC; simp; omega)]
    show (List.replicate 17 (1 : Int))[m.toNat]'(by simp; omega) = 1
    rw [List.getElem_replicate]
  have hD : IsD g.w g.h g.c (OpC g.w g.h g.c) (srcT g.c 0) (fun c => if 0 ≤ c ∧ c < 17 then c else INF) := by
    refine ⟨fun c hn => if_neg (fun k => hn (hop.2 k)), fun c => ?_, fun c k hs => ?_, fun c m h1 h2 ⟨s, hs, e⟩ _ => ?_, fun c => ?_⟩
    · split <;> omega
    · obtain ⟨_, rfl, rfl⟩ := hs; simp
    · rw [hop] at h1 h2
      rw [if_pos h1, if_pos h2, hco h2]
      rw [hw, hh] at e
      have := (step_ok (his.2 h1) hs.1 (by omega)).2 (by omega)
      rw [e] at this
      have hd : dx s ≤ 1 ∧ -1 ≤ dx s := by unfold dx; split <;> (try split) <;> omega
      have e3 := this.2.1
      rw [Int.emod_eq_of_lt h1.1 h1.2, Int.emod_eq_of_lt h2.1 h2.2] at e3
      omega
    · by_cases k : 0 ≤ c ∧ c < 17
      · rw [if_pos k]
        by_cases e : c = 0
        · exact .inr (.inl ⟨by rw [hc]; exact line_opn.2 (by omega), e, e⟩)
        · refine .inr (.inr ⟨c - 1, hop.2 (by omega), ⟨3, by omega, ?_⟩, ?_⟩)
          · rw [hw, hh, (step_val (his.2 k)).2.2.2, if_pos (by rw [Int.emod_eq_of_lt k.1 k.2]; omega)]
          · rw [if_pos (by omega), hco (by omega)]; omega
      · rw [if_neg k]; exact .inl rfl
  rw [← fl_eq ok hD c]
  exact if_pos h
theorem line_made : MadeOk 17 1 lineC := ⟨by omega, by omega, by simp [lineC], fun x hx => by have := List.eq_of_mem_replicate hx; omega⟩
theorem line_seeds {g : GridS} (ok : GridOk g) {r : RouteS} (hw : g.w = 17) (hh : g.h = 1) (hc : g.c = lineC) (hr : RouteOk g r) (hg : r.goal = 0) : seedsG g.w g.h g.c (atN r) r.goal 1 = [⟨0, 3, 16⟩] := by
  have hn : Nd g.w g.h g.c 15 := by
    rw [hw, hh, hc]
    exact ⟨⟨line_opn.2 (by omega), by decide⟩, 1, by omega, by decide, by decide⟩
  have ha : atN r 15 = 15 := by
    rw [hr.at ok, if_pos hn, hg]; exact line_flat ok hw hh hc (by omega)
  have e1 : nodesN 17 1 lineC 1 = [16] := by decide +kernel
  have e2 : crossN 17 1 lineC 16 = [⟨15, 1⟩] := by decide +kernel
  have hI : INF = 1099511627776 := rfl
  unfold seedsG seedsO seedC
  rw [hw, hh, hc, hg, e1, if_neg (by decide +kernel)]
  simp only [List.flatMap_cons, List.flatMap_nil, List.append_nil, e2]
  unfold seedE
  dsimp only
  rw [ha, if_pos (by decide)]
  decide +kernel
theorem law16_told : Spec PP 14 #[] [] (fun v M => v = .bool true ∧ M = []) := by
  refine spec_of (Go.Proofs.Tryz.func14) rfl rfl rfl (by exact fc_enters_14) ?_
  intro g F
  try dsimp only [ca, na, GridS.l, GridS.p, MeshS.l, MeshS.lF, MeshS.p, FinderS.l, FinderS.p, FinderS.lF, RouteS.l, RouteS.p, GridS.lT, RouteS.lT]
  refine Sq (Rg ?_)
  refine rp 1 rfl ?_
  refine Sn (Aw (Sq (Rg ?_)))
  refine Wx (xo_make eB (0) rfl rfl (by exact fc_slice_22_5_1) (by exact fc_elem_5_1_1) (by exact fc_zero_5) rfl (by first | omega | (simp <;> omega)) (by first | omega | (simp <;> omega)) (by first | omega | (simp <;> omega))) ?_
  rintro v5 _ rfl
  refine Wp (po_build1 rfl (by exact fc_zero_24) (by exact fc_places_24_0_1_2) (by exact fc_info_24) rfl) ?_
  refine Wx (xo_alloc (by exact fc_zero_24)) ?_
  rintro _ _ ⟨b1, rfl, rfl⟩
  refine Ws (so_storea1 rfl rfl (by exact fc_agg_24_3) rfl rfl) ?_
  refine Sn (Aw (Sq (Sq (Rg ?_))))
  refine rp 1 rfl ?_
  refine Sn (Aw (Bk ?_))
  rw [show (17 : Int).toNat = 17 from rfl, fill2_0 1 0]
  refine r_loop (S := Nat) (fun k => [(2, .int .i64 k)]) [(1, _)] (fun k => [Blk b1 24 [.int .i64 17, .int .i64 1, v5], Sl eB v5 (fill2 1 0 17 k), F]) (fun k => k ≤ 17) (fun k => 17 - k) (0) (And.intro rfl (trivial)) (And.intro rfl (trivial)) (by omega) ent ?_
  rintro k hk
  try dsimp only [ca, na, GridS.l, GridS.p, MeshS.l, MeshS.lF, MeshS.p, FinderS.l, FinderS.p, FinderS.lF, RouteS.l, RouteS.p, GridS.lT, RouteS.lT]
  refine Sq (Sq (Rg ?_))
  refine rp 1 rfl ?_
  refine Wp (po_lt rfl rfl) ?_
  refine Sn (Aw ?_)
  refine Rc rfl ?_ ?_
  ·skip
   intro hlt
   have hll := fill2_len (1 : Int) 0 hk
   refine Sk (Aw (Sq (Bk (Rg ?_))))
   refine Wp (po_faddr rfl (by exact fc_field_24_2_2)) ?_
   refine Wp (po_load rfl (by exact fc_flat_22) (by rfl)) ?_
   refine rp 1 rfl ?_
   refine Wp (po_iaddr rfl rfl (by exact fc_slice_22_5_1) (by first | omega | (simp <;> omega)) (by first | omega | (simp <;> omega))) ?_
   refine Ws (so_store_sl rfl rfl (List.getElem?_eq_getElem (by first | omega | (simp <;> omega))) (by exact fc_flat_5) (by decide) (by rfl) (by rfl)) ?_
   refine Sn (Bn (Aw (Rg ?_)))
   refine rp 1 rfl ?_
   refine Wp (po_add' rfl rfl (by omega) (by omega)) ?_
   refine rp 1 rfl ?_
   refine Sn ?_
   simp only [Int.toNat_natCast]
   rw [fill2_set _ _ (by omega)]
   exact at_again (k + 1) (And.intro rfl (trivial)) (And.intro rfl (trivial)) (by omega) (by omega) ent
  ·skip
   intro hlt
   rw [show k = 17 by omega, fill2_n, show List.replicate 17 (1 : Int) = lineC from rfl]
   refine Ex' (Ax (Ax (Bh (Aw (Sq (Rg ?_))))))
   refine Wp (po_loada rfl (by exact fc_agg_24_3) (by rfl)) ?_
   refine Wc (co_fn rfl rfl) (law16_found 17 1 v5 lineC line_made 0 (by decide)) ?_
   rintro v17 _ ⟨f, r, rfl, rfl, ok, hw, hh, hc, hep, hre, hg, hro, hvs⟩
   try dsimp only [ca, na, GridS.l, GridS.p, MeshS.l, MeshS.lF, MeshS.p, FinderS.l, FinderS.p, FinderS.lF, RouteS.l, RouteS.p, GridS.lT, RouteS.lT]
   have hse := line_seeds ok hw hh hc hro hg
   refine rp 5 rfl ?_
   refine Sn (Aw (Sq (Rg ?_)))
   refine rp 1 rfl ?_
   refine Wp (po_pne rfl rfl (by exact fc_ptr_27)) ?_
   refine Wp (po_bt (po_move rfl) (rfl)) ?_
   refine rp 2 rfl ?_
   refine Wc (co_fn rfl rfl) (inject_Seeds f.m.g ok r hro.rng (by rw [hre, hep]) (by rw [hg, hw, hh]; decide) 1) ?_
   rintro v25 _ ⟨ys, rfl, hp, hs⟩
   try dsimp only [ca, na, GridS.l, GridS.p, MeshS.l, MeshS.lF, MeshS.p, FinderS.l, FinderS.p, FinderS.lF, RouteS.l, RouteS.p, GridS.lT, RouteS.lT]
   rw [hse, List.perm_singleton] at hp
   subst hp
   refine Wp (po_build1 rfl (by exact fc_zero_45) (by exact fc_places_45_0_1_2) (by exact fc_info_45) rfl) ?_
   refine Wx (xo_bslice eS [⟨0, 3, 16⟩] rfl (by exact fc_slice_32_45_3) (by exact fc_elem_45_3_24) ⟨rfl, rfl, trivial⟩ rfl (by decide)) ?_
   rintro v27 _ rfl
   refine Wc (co_fn rfl rfl) (ref_SameSeeds v25 v27 [⟨0, 3, 16⟩] [⟨0, 3, 16⟩] (by simp)) ?_
   rintro v28 _ ⟨rfl, rfl⟩
   try dsimp only [ca, na, GridS.l, GridS.p, MeshS.l, MeshS.lF, MeshS.p, FinderS.l, FinderS.p, FinderS.lF, RouteS.l, RouteS.p, GridS.lT, RouteS.lT]
   refine rp 2 rfl ?_
   refine Sn (Aw (Rt ?_))
   refine at_ret1 rfl (rv_tmp rfl) ⟨_, ⟨by simp, rfl⟩, ?_⟩
   try dsimp only [ca, na, GridS.l, GridS.p, MeshS.l, MeshS.lF, MeshS.p, FinderS.l, FinderS.p, FinderS.lF, RouteS.l, RouteS.p, GridS.lT, RouteS.lT]
   exact ent

end Hd
end
section
namespace Hd
set_option maxRecDepth 100000
open Go

theorem made_cell {w h : Int} {C : List Int} (k : MadeOk w h C) (goal : Int) : IsC w h (0 + goal % ((C.length : Int) - 1 - 0 + 1)) := by
  have hm := may_mul k.may.1
  have hl := k.len
  have := Int.emod_nonneg goal (show (C.length : Int) - 1 - 0 + 1 ≠ 0 by omega)
  have := Int.emod_lt_of_pos goal (show (0 : Int) < (C.length : Int) - 1 - 0 + 1 by omega)
  exact ⟨k.may.1, by omega, by omega⟩
theorem made_sec {w h : Int} {C : List Int} (k : MadeOk w h C) (sector : Int) : IsS w h (0 + sector % ((secsN w h).1 * (secsN w h).2 - 1 - 0 + 1)) := by
  have ha := acr_pos k.may.1
  have hs : (secsN w h).1 * (secsN w h).2 = acrN w * acrN h := by rw [secsN, if_pos k.may.1]
  have hp : 1 ≤ acrN w * acrN h := Int.mul_pos (by omega) (by omega)
  rw [hs]
  have := Int.emod_nonneg sector (show acrN w * acrN h - 1 - 0 + 1 ≠ 0 by omega)
  have := Int.emod_lt_of_pos sector (show (0 : Int) < acrN w * acrN h - 1 - 0 + 1 by omega)
  exact ⟨k.may.1, by omega, by omega⟩
theorem made_cnt {w h : Int} {C : List Int} (k : MadeOk w h C) : 1 ≤ (secsN w h).1 * (secsN w h).2 ∧ (secsN w h).1 * (secsN w h).2 ≤ 1048576 := by
  have ha := acr_pos k.may.1
  have hs : (secsN w h).1 * (secsN w h).2 = acrN w * acrN h := by rw [secsN, if_pos k.may.1]
  have hp : 1 ≤ acrN w * acrN h := Int.mul_pos (by omega) (by omega)
  have := secs_mul w h
  omega
theorem law16_Elder (K : HP) (w h : Int) (cv : Value) (c : List Int) [Rd [K] cv Int eB c] (hc : ∀ x ∈ c, 0 ≤ x ∧ x ≤ 255) (goal sector lc lk : Int) :
    Spec PP 5 #[.int .i64 w, .int .i64 h, cv, .int .i64 goal, .int .i64 sector, .agg #[.int .i64 lc, .int .i64 lk]] [K] (fun v M => v = .bool true ∧ M = [K]) := by
  refine spec_of (Go.Proofs.Tryz.func5) rfl rfl rfl (by exact fc_enters_5) ?_
  intro g F
  try dsimp only [ca, na, GridS.l, GridS.p, MeshS.l, MeshS.lF, MeshS.p, FinderS.l, FinderS.p, FinderS.lF, RouteS.l, RouteS.p, GridS.lT, RouteS.lT]
  refine Sq (Rg ?_)
  refine Wx (xo_box rfl rfl) ?_
  rintro _ _ ⟨b11, rfl, rfl⟩
  refine rp 1 rfl ?_
  refine Sn (Aw (Sq (Rg ?_)))
  refine rp 3 rfl ?_
  refine Wc (co_fn rfl rfl) (ref_Made K w h cv c hc) ?_
  rintro v20 _ ⟨W, H, mv, C, rfl, rfl, hm⟩
  try dsimp only [ca, na, GridS.l, GridS.p, MeshS.l, MeshS.lF, MeshS.p, FinderS.l, FinderS.p, FinderS.lF, RouteS.l, RouteS.p, GridS.lT, RouteS.lT]
  have hmm := may_mul hm.may.1
  have hml := hm.len
  refine Wx (xo_alloc (by exact fc_zero_24)) ?_
  rintro _ _ ⟨b13, rfl, rfl⟩
  refine Ws (so_storea1 rfl rfl (by exact fc_agg_24_3) rfl rfl) ?_
  refine Sn (Aw (Sq ?_))
  refine r_ord [] _ [(0, 0), (1, 1), (2, 1), (3, 0), (4, 0), (5, 1), (6, 2), (7, 2), (8, 1), (9, 1), (10, 1), (11, 1), (12, 1)] fc_mixed (by kernel_rfl) (fun _ h => h) ?_
  refine Or rfl (po_loada rfl (by exact fc_agg_24_3) (by rfl)) ?_
  refine Of rfl (po_move rfl) ?_
  refine Of rfl (po_faddr rfl (by exact fc_field_24_2_2)) ?_
  refine Or rfl (po_load rfl (by exact fc_flat_22) (by rfl)) ?_
  refine Or rfl (po_len rfl (by exact fc_slice_22_5_1)) ?_
  refine Of rfl (po_sub' rfl rfl (by omega) (by omega)) ?_
  refine o_st rfl (st_call (co_fn rfl rfl) (ref_Within goal 0 ((C.length : Int) - 1) (by omega) (by omega) (by omega)) (by infer_instance) rfl rfl rfl ?_)
  rintro v28 _ ⟨rfl, rfl⟩
  try dsimp only [ca, na, GridS.l, GridS.p, MeshS.l, MeshS.lF, MeshS.p, FinderS.l, FinderS.p, FinderS.lF, RouteS.l, RouteS.p, GridS.lT, RouteS.lT]
  refine ⟨fun _ => (by first | exact fun _ h => h | exact ent), ?_⟩
  refine o_st rfl (st_call (co_fn rfl rfl) (law16_found W H mv C hm _ (made_cell hm goal)) (by infer_instance) rfl rfl rfl ?_)
  rintro v29 _ ⟨f, r, rfl, rfl, ok, hw, hh, hcc, hep, hre, hg, hro, hvs⟩
  try dsimp only [ca, na, GridS.l, GridS.p, MeshS.l, MeshS.lF, MeshS.p, FinderS.l, FinderS.p, FinderS.lF, RouteS.l, RouteS.p, GridS.lT, RouteS.lT]
  refine ⟨fun _ => (by first | exact fun _ h => h | exact ent), ?_⟩
  refine Of rfl (po_move rfl) ?_
  refine Of rfl (po_extract rfl rfl) ?_
  refine Of rfl (po_extract rfl rfl) ?_
  refine Of rfl (po_assign rfl) ?_
  refine Of rfl (po_assign rfl) ?_
  refine o_nil ?_
  refine Aw (Sq (Sq ?_))
  refine r_ord [] [Blk b13 24 [.int .i64 W, .int .i64 H, mv], Blk b11 51 [.int .i64 lc, .int .i64 lk], Sl eB mv C] [(0, 1), (1, 1), (2, 1), (3, 1), (4, 1), (5, 0), (6, 1), (7, 0), (8, 0), (9, 1), (11, 1), (12, 0), (10, 2), (13, 2), (14, 2), (15, 1), (16, 1)] fc_mixed (by kernel_rfl) ent ?_
  refine Of rfl (po_move rfl) ?_
  refine Of rfl (po_peq rfl rfl (by exact fc_ptr_27)) ?_
  refine Of rfl (po_bf (po_move rfl) (rfl)) ?_
  refine Of rfl (po_move rfl) ?_
  refine Of rfl (po_faddr rfl (by exact fc_field_51_0_0)) ?_
  refine Or rfl (po_load rfl (by exact fc_flat_3) (by rfl)) ?_
  refine Of rfl (po_faddr rfl (by exact fc_field_24_2_2)) ?_
  refine Or rfl (po_load rfl (by exact fc_flat_22) (by rfl)) ?_
  refine Or rfl (po_len rfl (by exact fc_slice_22_5_1)) ?_
  refine Of rfl (po_sub' rfl rfl (by omega) (by omega)) ?_
  refine Of rfl (po_faddr rfl (by exact fc_field_51_1_1)) ?_
  refine Or rfl (po_load rfl (by exact fc_flat_3) (by rfl)) ?_
  refine o_st rfl (st_call (co_fn rfl rfl) (ref_Within lc 0 ((C.length : Int) - 1) (by omega) (by omega) (by omega)) (by infer_instance) rfl rfl rfl ?_)
  rintro v42 _ ⟨rfl, rfl⟩
  try dsimp only [ca, na, GridS.l, GridS.p, MeshS.l, MeshS.lF, MeshS.p, FinderS.l, FinderS.p, FinderS.lF, RouteS.l, RouteS.p, GridS.lT, RouteS.lT]
  refine ⟨fun _ => (by first | exact fun _ h => h | exact ent), ?_⟩
  refine o_st rfl (st_call (co_fn rfl rfl) (ref_Within lk 1 255 (by omega) (by omega) (by omega)) (by infer_instance) rfl rfl rfl ?_)
  rintro v45 _ ⟨rfl, rfl⟩
  try dsimp only [ca, na, GridS.l, GridS.p, MeshS.l, MeshS.lF, MeshS.p, FinderS.l, FinderS.p, FinderS.lF, RouteS.l, RouteS.p, GridS.lT, RouteS.lT]
  refine ⟨fun _ => (by first | exact fun _ h => h | exact ent), ?_⟩
  have hlc := made_cell hm lc
  refine o_st rfl (st_call (co_fn rfl rfl) (grid_Edit f.m.g (0 + lc % ((C.length : Int) - 1 - 0 + 1)) (1 + lk % (255 - 1 + 1)) ok (by rw [hcc]; have := hlc.2; omega) (by omega) (by omega)) (by infer_instance) rfl rfl rfl ?_)
  rintro v46 _ ⟨rfl, rfl⟩
  try dsimp only [ca, na, GridS.l, GridS.p, MeshS.l, MeshS.lF, MeshS.p, FinderS.l, FinderS.p, FinderS.lF, RouteS.l, RouteS.p, GridS.lT, RouteS.lT]
  refine ⟨fun _ => (by first | exact fun _ h => h | exact ent), ?_⟩
  refine Of rfl (po_ne rfl rfl) ?_
  refine Of rfl (po_pick_f rfl rfl) ?_
  refine o_nil ?_
  refine Aw ?_
  first | refine r_dec_f rfl (by simp) ?_ | refine r_nd_f rfl (by simp) ?_ | refine r_cond_f rfl (by simp) ?_
  have hcn := made_cnt hm
  refine Sk (Aw (Sq (Rg ?_)))
  refine rp 1 rfl ?_
  refine Wp (po_faddr rfl (by exact fc_field_24_0_0)) ?_
  refine Wp (po_load rfl (by exact fc_flat_3) (by rfl)) ?_
  refine Wp (po_faddr rfl (by exact fc_field_24_1_1)) ?_
  refine Wp (po_load rfl (by exact fc_flat_3) (by rfl)) ?_
  refine Wc (co_fn rfl rfl) (ref_Count W H) ?_
  rintro v54 _ ⟨rfl, rfl⟩
  try dsimp only [ca, na, GridS.l, GridS.p, MeshS.l, MeshS.lF, MeshS.p, FinderS.l, FinderS.p, FinderS.lF, RouteS.l, RouteS.p, GridS.lT, RouteS.lT]
  refine Wp (po_sub' rfl rfl (by omega) (by omega)) ?_
  refine Wc (co_fn rfl rfl) (ref_Within sector 0 ((secsN W H).1 * (secsN W H).2 - 1) (by omega) (by omega) (by omega)) ?_
  rintro v56 _ ⟨rfl, rfl⟩
  try dsimp only [ca, na, GridS.l, GridS.p, MeshS.l, MeshS.lF, MeshS.p, FinderS.l, FinderS.p, FinderS.lF, RouteS.l, RouteS.p, GridS.lT, RouteS.lT]
  refine rp 1 rfl ?_
  refine Sn (Aw (Sq (Rg ?_)))
  refine Wc (co_fn rfl rfl) (law16_told) ?_
  rintro v57 _ ⟨rfl, rfl⟩
  try dsimp only [ca, na, GridS.l, GridS.p, MeshS.l, MeshS.lF, MeshS.p, FinderS.l, FinderS.p, FinderS.lF, RouteS.l, RouteS.p, GridS.lT, RouteS.lT]
  refine Wp (po_bt (po_move rfl) (rfl)) ?_
  refine rp 3 rfl ?_
  refine Wc (co_fn rfl rfl) (inject_Seeds_ep (f.m.g.edit (0 + lc % ((C.length : Int) - 1 - 0 + 1)) (1 + lk % (255 - 1 + 1))) r (by show r.ep ≠ f.m.g.ep + 1; omega) _) ?_
  rintro v62 _ ⟨rfl, rfl⟩
  try dsimp only [ca, na, GridS.l, GridS.p, MeshS.l, MeshS.lF, MeshS.p, FinderS.l, FinderS.p, FinderS.lF, RouteS.l, RouteS.p, GridS.lT, RouteS.lT]
  refine Wp (po_len rfl (by exact fc_slice_32_45_3)) ?_
  refine Wp (po_eq rfl rfl) ?_
  refine rp 1 rfl ?_
  refine Wp (po_bt (po_move rfl) (rfl)) ?_
  refine rp 2 rfl ?_
  refine Wc (co_fn rfl rfl) (inject_Seeds_g r (by omega) _) ?_
  rintro v69 _ ⟨rfl, rfl⟩
  try dsimp only [ca, na, GridS.l, GridS.p, MeshS.l, MeshS.lF, MeshS.p, FinderS.l, FinderS.p, FinderS.lF, RouteS.l, RouteS.p, GridS.lT, RouteS.lT]
  refine Wp (po_len rfl (by exact fc_slice_32_45_3)) ?_
  refine Wp (po_eq rfl rfl) ?_
  refine rp 1 rfl ?_
  refine Wp (po_bt (po_move rfl) (rfl)) ?_
  refine rp 2 rfl ?_
  refine Wc (co_fn rfl rfl) (inject_Seeds_r (f.m.g.edit (0 + lc % ((C.length : Int) - 1 - 0 + 1)) (1 + lk % (255 - 1 + 1))) _) ?_
  rintro v76 _ ⟨rfl, rfl⟩
  try dsimp only [ca, na, GridS.l, GridS.p, MeshS.l, MeshS.lF, MeshS.p, FinderS.l, FinderS.p, FinderS.lF, RouteS.l, RouteS.p, GridS.lT, RouteS.lT]
  refine Wp (po_len rfl (by exact fc_slice_32_45_3)) ?_
  refine Wp (po_eq rfl rfl) ?_
  refine rp 2 rfl ?_
  refine Sn (Aw (Rt ?_))
  refine at_ret1 rfl (rv_tmp rfl) ⟨_, ⟨rfl, rfl⟩, ?_⟩
  try dsimp only [ca, na, GridS.l, GridS.p, MeshS.l, MeshS.lF, MeshS.p, FinderS.l, FinderS.p, FinderS.lF, RouteS.l, RouteS.p, GridS.lT, RouteS.lT]
  exact ent
end Hd
end
section
namespace Hd
open Go Go.ChangeShapes Go.WideShapes Go.ChangeAt Go.RowKit
/-! ## from the arguments as they lie to what the walks are told -/
theorem open_bytes {H : Type} {enc : TypeId × Value → H} {P : Program} {W : World} {r : Reach} {b0 : Nat} {t e : TypeId} {v : Value} {d : DataW H} {p : List MemPlace} (ht : P.underlying t = some (.slice e)) (he : P.underlying e = some (.int .u8)) (hc : P.cellsOf e = 1)
    (hv : Value.okWide P W r b0 t v) (h : DataW.Trod enc P W 0 (fun _ => true) true t v d p) : ∃ c : List Int, Reads eB v c (frag W) ∧ ∀ x ∈ c, 0 ≤ x ∧ x ≤ 255 := by
  obtain ⟨a, len, cap, rfl⟩ := okWide_slice ht hv
  obtain ⟨fuel, hf⟩ := h
  rcases open_ints ht he hc hf with ⟨hcs, _⟩ | ⟨x, l, c, zs, hcs, _, hl, hm, hz, _, hcell, hwz⟩
  · simp [Value.cells] at hcs
    obtain ⟨rfl, rfl, rfl⟩ := hcs
    exact ⟨[], .inl ⟨rfl, rfl⟩, by simp⟩
  · simp [Value.cells] at hcs
    obtain ⟨rfl, rfl, rfl⟩ := hcs
    have hsp : x.spot = none := by
      simp only [Value.okWide, ht, Cell.okWide, Cell.ok] at hv
      exact hv.2.2.2.1
    obtain ⟨b, off, spot⟩ := x
    dsimp only at hsp
    subst hsp
    have hzl : zs.length = cap := by simpa using hz
    have htl : (zs.take len).length = len := by rw [List.length_take]; omega
    refine ⟨zs.take len, .inr ⟨b, off, cap, by rw [htl], by omega, fun j u hu => ?_⟩, fun x hx => ?_⟩
    · have hj : j < len := by
        have := lt_of_get hu
        rw [flat_len, htl, show eB.k = 1 from rfl, Nat.mul_one] at this
        exact this
      have hzj : zs[j]? = some (zs.getD j 0) := by rw [List.getD_eq_getElem?_getD, List.getElem?_eq_getElem (by omega)]; rfl
      have hu2 : ((zs.take len).flatMap eB.f)[j * eB.k + 0]? = (eB.f (zs.getD j 0))[0]? := flat_get eB (zs.take len) j 0 (zs.getD j 0) (by rw [List.getElem?_take, if_pos hj, hzj]) (by decide)
      have e1 : eB.k = 1 := rfl
      rw [e1, Nat.mul_one, Nat.add_zero, hu] at hu2
      have hce := hcell j (by omega)
      have hu3 : u = .int .u8 (zs.getD j 0) := Option.some.inj hu2
      rw [add_off] at hce
      simp only [World.cell?] at hce
      show ∃ c T fr, W.heap[b]? = some (.cells c T fr) ∧ c[off + j]? = some u
      cases hb : W.heap[b]? with
      | none => simp [hb] at hce
      | some o =>
        cases o <;> simp [hb] at hce
        rename_i c T fr
        exact ⟨c, T, fr, rfl, by rw [hu3]; exact hce⟩
    · have := hwz x (List.mem_of_mem_take hx)
      simpa [Lit.wf, IntKind.min, IntKind.max, IntKind.signed, IntKind.bits] using this
theorem spec_top {f : FuncId} {args : Array Value} {W : World} {cv : Value} {c : List Int} (h : Spec PP f args [Ins (frag W) eB cv c] (fun v M => v = .bool true ∧ M = [Ins (frag W) eB cv c])) (hr : Reads eB cv c (frag W)) :
    Calls PP f args W fun e w' => e = .returned (.bool true) ∧ Below W.heap.size W w' := by
  refine (h.calls ⟨W.os, W.tape, W.output, W.drawn⟩ (fun _ => True) W ⟨rfl, rfl, rfl, Nat.le_refl _, ?_⟩).mono ?_
  · exact ⟨frag W, fun _ => none, fun b => .inr ⟨rfl, rfl⟩, ⟨fun b o e => e, hr⟩, _, _, fun b => .inr ⟨rfl, rfl⟩, trivial, trivial⟩
  · rintro e w' ⟨v, M, rfl, ⟨rfl, rfl⟩, fw⟩
    exact ⟨rfl, Fit.below rfl (fun h k => k.1) fw⟩
end Hd
end
section
namespace Hd
/-! ## made less, to and fro, as long as anything is -/
structure Snd (g : GridS) (t : Int) (d : List Int) : Prop where
  len : d.length = g.c.length
  lo : ∀ c : Int, 0 ≤ c → c < d.length → flD g t c ≤ gAt d c
  hi : ∀ x ∈ d, 0 ≤ x ∧ x ≤ INF
  goal : gAt d t = 0
def sumN (d : List Int) : Nat := (d.map Int.toNat).sum
/-- a side by which c may be made less -/
def Less (g : GridS) (d : List Int) (c s : Int) : Prop := 0 ≤ stepN g.w g.h c s ∧ Opn g.c c ∧ Opn g.c (stepN g.w g.h c s) ∧ gAt d (stepN g.w g.h c s) < INF ∧ gAt d (stepN g.w g.h c s) + gAt g.c (stepN g.w g.h c s) < gAt d c
theorem Snd.relax {g : GridS} (ok : GridOk g) {t : Int} {d : List Int} (k : Snd g t d) (ht : Opn g.c t) {c s : Int} (hs : 0 ≤ s ∧ s < 4) (h : Less g d c s) :
    Snd g t (d.set c.toNat (gAt d (stepN g.w g.h c s) + gAt g.c (stepN g.w g.h c s))) ∧ sumN (d.set c.toNat (gAt d (stepN g.w g.h c s) + gAt g.c (stepN g.w g.h c s))) < sumN d := by
  obtain ⟨h0, hc, ho, hl, hlt⟩ := h
  generalize hse : stepN g.w g.h c s = o at *
  have hlen := k.len
  have hcl : 0 ≤ c ∧ c < d.length := ⟨hc.1, by have := hc.2.1; omega⟩
  have hol : 0 ≤ o ∧ o < d.length := ⟨ho.1, by have := ho.2.1; omega⟩
  have hcost := opn_cost ok ho
  have hlo := k.lo o hol.1 hol.2
  have hro := (fl_is ok t).rng o
  have hI : INF = 1099511627776 := rfl
  have hrel := (fl_is ok t).rel c o ⟨hc, opn_isC ok hc⟩ ⟨ho, opn_isC ok ho⟩ ⟨s, hs, hse⟩ (by omega)
  have hgc : gAt d c = d[c.toNat]'(by omega) := gAt_get (by omega)
  have hhc := k.hi _ (List.getElem_mem (show c.toNat < d.length by omega))
  have hgo : gAt d o = d[o.toNat]'(by omega) := gAt_get (by omega)
  have hho := k.hi _ (List.getElem_mem (show o.toNat < d.length by omega))
  refine ⟨⟨by simpa using hlen, fun x h1 h2 => ?_, fun x hx => ?_, ?_⟩, ?_⟩
  · rw [gAt_set hcl.1 hcl.2 h1]
    split
    · rename_i e; subst e; omega
    · exact k.lo x h1 (by simpa using h2)
  · rcases List.mem_or_eq_of_mem_set hx with e | e
    · exact k.hi x e
    · subst e; omega
  · rw [gAt_set hcl.1 hcl.2 ht.1]
    split
    · rename_i e
      have := k.goal
      rw [e] at this; omega
    · exact k.goal
  · have := sum_set Int.toNat d c.toNat _ (gAt d o + gAt g.c o) (List.getElem?_eq_getElem (show c.toNat < d.length by omega))
    unfold sumN
    omega
theorem Snd.closed {g : GridS} (ok : GridOk g) {t : Int} {d : List Int} (k : Snd g t d) (ht : Opn g.c t) (h : ∀ c s : Int, 0 ≤ s ∧ s < 4 → ¬ Less g d c s) : ∀ (c : Int), 0 ≤ c → c < d.length → gAt d c = flD g t c := by
  have hlen := k.len
  have hI : INF = 1099511627776 := rfl
  have key : ∀ (n : Nat) (c : Int), flD g t c < INF → flD g t c ≤ n → gAt d c ≤ flD g t c := by
    intro n
    induction n using Nat.strongRecOn with
    | _ n ih =>
      intro c hlt hle
      have hcm := (fl_is ok t).mem hlt
      have hcr := (fl_is ok t).rng c
      rcases (fl_is ok t).tight c with e | ⟨_, e1, e2⟩ | ⟨m, hm, ⟨s, hs, e⟩, hml, e2⟩
      · omega
      · rw [e1] at e2 ⊢; have := k.goal; omega
      · have hcost := opn_cost ok hm.1
        have hmr := (fl_is ok t).rng m
        have i1 := ih (flD g t m).toNat (by omega) m hml (by omega)
        have := h c s hs
        unfold Less at this
        rw [e] at this
        rcases Int.lt_or_le (gAt d m + gAt g.c m) (gAt d c) with h1 | h1
        · exact absurd ⟨hm.1.1, hcm.1, hm.1, by omega, h1⟩ this
        · omega
  intro c h0 h1
  have hlo := k.lo c h0 h1
  have hg : gAt d c = d[c.toNat]'(by omega) := gAt_get (by omega)
  have hhi := k.hi _ (List.getElem_mem (show c.toNat < d.length by omega))
  rcases (fl_is ok t).rng c with e | e
  · omega
  · have := key (flD g t c).toNat c e.2 (by omega); omega
theorem flD_none {g : GridS} (ok : GridOk g) {t : Int} (ht : ¬ Opn g.c t) (c : Int) : flD g t c = INF := by
  have hI : INF = 1099511627776 := rfl
  have h : IsD g.w g.h g.c (OpC g.w g.h g.c) (srcT g.c t) (fun _ => INF) :=
    ⟨fun _ _ => rfl, fun _ => .inl rfl, fun c k hs => absurd hs.1 ht, fun c m _ _ _ hl => absurd hl (by omega), fun _ => .inl rfl⟩
  exact (fl_eq ok h c).symm
/-- one round, as far as it has come -/
structure Rnd (g : GridS) (t : Int) (d0 : List Int) (a : Bool) (d : List Int) (P : Int → Int → Prop) : Prop where
  snd : Snd g t d
  no : a = false → d = d0 ∧ ∀ c s : Int, P c s → ¬ Less g d0 c s
  yes : a = true → sumN d < sumN d0
theorem Rnd.mono {g : GridS} {t : Int} {d0 d : List Int} {a : Bool} {P P' : Int → Int → Prop} (k : Rnd g t d0 a d P) (h : ∀ c s, P' c s → P c s ∨ ¬ Opn g.c c) : Rnd g t d0 a d P' :=
  ⟨k.snd, fun e => ⟨(k.no e).1, fun c s hp => (h c s hp).elim ((k.no e).2 c s) (fun hn hl => hn hl.2.1)⟩, k.yes⟩
theorem Rnd.skip {g : GridS} {t : Int} {d0 d : List Int} {a : Bool} {P P' : Int → Int → Prop} {c0 s0 : Int} (k : Rnd g t d0 a d P) (hn : ¬ Less g d c0 s0) (h : ∀ c s, P' c s → P c s ∨ (c = c0 ∧ s = s0)) : Rnd g t d0 a d P' :=
  ⟨k.snd, fun e => ⟨(k.no e).1, fun c s hp => (h c s hp).elim ((k.no e).2 c s) (fun e2 => by rw [e2.1, e2.2, ← (k.no e).1]; exact hn)⟩, k.yes⟩
theorem Rnd.less {g : GridS} (ok : GridOk g) {t : Int} {d0 d : List Int} {a : Bool} {P P' : Int → Int → Prop} {c s : Int} (k : Rnd g t d0 a d P) (ht : Opn g.c t) (hs : 0 ≤ s ∧ s < 4) (h : Less g d c s) :
    Rnd g t d0 true (d.set c.toNat (gAt d (stepN g.w g.h c s) + gAt g.c (stepN g.w g.h c s))) P' := by
  obtain ⟨h1, h2⟩ := k.snd.relax ok ht hs h
  refine ⟨h1, fun e => (by cases e), fun _ => ?_⟩
  cases a with
  | false => rw [← (k.no rfl).1]; exact h2
  | true => have := k.yes rfl; omega
end Hd
end
section
namespace Hd
set_option maxRecDepth 100000
open Go

theorem ref_open (w h : Int) (cv : Value) (C : List Int) (c : Int) : Spec PP 35 #[mapV w h cv, .int .i64 c] [Sl eB cv C] (fun v M => v = .bool (decide (Opn C c)) ∧ M = [Sl eB cv C]) := by
  refine spec_of (Go.Proofs.Tryz.func35) rfl rfl rfl (by exact fc_enters_35) ?_
  intro g F
  try dsimp only [ca, na]
  refine Sq (Rg ?_)
  refine Wx (xo_box rfl rfl) ?_
  rintro _ _ ⟨b2, rfl, rfl⟩
  refine rp 1 rfl ?_
  refine Sn (Aw (Sq (Rg ?_)))
  refine rp 1 rfl ?_
  refine Wp (po_ge rfl rfl) ?_
  by_cases h0 : 0 ≤ c
  ·skip
   refine ws (st_po (po_bt (po_move rfl) (decide_eq_true h0)) rfl rfl rfl ?_)
   refine rp 1 rfl ?_
   refine Wp (po_faddr rfl (by exact fc_field_24_2_2)) ?_
   refine Wp (po_load rfl (by exact fc_flat_22) (by rfl)) ?_
   refine Wp (po_len rfl (by exact fc_slice_22_5_1)) ?_
   refine Wp (po_lt rfl rfl) ?_
   refine rp 1 rfl ?_
   by_cases h1 : c < C.length
   ·skip
    refine ws (st_po (po_bt (po_move rfl) (decide_eq_true h1)) rfl rfl rfl ?_)
    have hg : gAt C c = C[c.toNat]'(by omega) := gAt_get (by omega)
    refine Wp (po_faddr rfl (by exact fc_field_24_2_2)) ?_
    refine Wp (po_load rfl (by exact fc_flat_22) (by rfl)) ?_
    refine rp 1 rfl ?_
    refine Wp (po_iaddr rfl rfl (by exact fc_slice_22_5_1) (by first | omega | (simp <;> omega)) (by first | omega | (simp <;> omega))) ?_
    refine Wp (po_load_sl rfl (List.getElem?_eq_getElem (by first | omega | (simp <;> omega))) (by exact fc_flat_5) (by rfl)) ?_
    refine Wp (po_ne rfl rfl) ?_
    refine rp 2 rfl ?_
    refine Sn (Aw (Rt ?_))
    refine at_ret1 rfl (rv_tmp rfl) ⟨_, ⟨by congr 1; refine decide_eq_decide.2 ?_; rw [← hg]; exact ⟨fun h2 => ⟨h0, h1, h2⟩, fun h2 => h2.2.2⟩, rfl⟩, ?_⟩
    try dsimp only [ca, na]
    exact ent
   ·skip
    refine ws (st_po (po_bf (po_move rfl) (decide_eq_false h1)) rfl rfl rfl ?_)
    refine rp 8 rfl ?_
    refine Sn (Aw (Rt ?_))
    refine at_ret1 rfl (rv_tmp rfl) ⟨_, ⟨by rw [decide_eq_false (fun h2 => h1 h2.2.1)], rfl⟩, ?_⟩
    try dsimp only [ca, na]
    exact ent
  ·skip
   refine ws (st_po (po_bf (po_move rfl) (decide_eq_false h0)) rfl rfl rfl ?_)
   refine rp 15 rfl ?_
   refine Sn (Aw (Rt ?_))
   refine at_ret1 rfl (rv_tmp rfl) ⟨_, ⟨by rw [decide_eq_false (fun h2 => h0 h2.1)], rfl⟩, ?_⟩
   try dsimp only [ca, na]
   exact ent
theorem ref_Over (w h c s : Int) : Spec PP 34 #[.int .i64 w, .int .i64 h, .int .i64 c, .int .i64 s] [] (fun v M => v = .int .i64 (overN w h c s) ∧ M = []) := by
  refine spec_of (Go.Proofs.Tryz.func34) rfl rfl rfl (by exact fc_enters_34) ?_
  intro g F
  try dsimp only [ca, na]
  refine Sq (Rg ?_)
  refine rp 1 rfl ?_
  refine Sn (Aw (Sq (Sq (Rg ?_))))
  refine rp 1 rfl ?_
  refine Wc (co_fn rfl rfl) (ref_In s 0 3) ?_
  rintro v11 _ ⟨rfl, rfl⟩
  try dsimp only [ca, na]
  refine Wp (po_not rfl) ?_
  refine Sn (Aw ?_)
  refine Rc rfl ?_ ?_
  ·skip
   intro h3
   refine Sq (Rg ?_)
   refine rp 1 rfl ?_
   refine Sn (Aw (Rt (Ar ?_)))
   refine at_ret1 rfl (rv_tmp rfl) ⟨_, ⟨by
      congr 1
      by_cases e : IsC w h c ∧ 0 ≤ s ∧ s ≤ 4
      · have e4 : s = 4 := by omega
        subst e4
        have s4 : stepN w h c 4 = c := by rw [step_eq e.1 (by decide) (by decide)]; have := isc_xy e.1; simp only [dx, dy]; simp; rw [cellN, if_pos ⟨e.1.1, this.1, this.2.1⟩]; exact this.2.2.symm
        rw [overN, s4, if_pos (.inr rfl)]
      · rw [overN, step_none e, if_pos (.inl (by decide))], rfl⟩, ?_⟩
   try dsimp only [ca, na]
   exact ent
  ·skip
   intro h3
   refine Sk (Aw (Sq (Rg ?_)))
   refine rp 4 rfl ?_
   refine Wc (co_fn rfl rfl) (ref_Step w h c s) ?_
   rintro v17 _ ⟨rfl, rfl⟩
   try dsimp only [ca, na]
   refine rp 1 rfl ?_
   refine Sn (Aw (Sq (Sq (Rg ?_))))
   refine rp 1 rfl ?_
   refine Wp (po_lt rfl rfl) ?_
   by_cases h1 : stepN w h c s < 0
   ·skip
    refine ws (st_po (po_bt (po_move rfl) (decide_eq_true h1)) rfl rfl rfl ?_)
    refine rp 10 rfl ?_
    refine Sn (Aw ?_)
    refine r_cond_t rfl rfl ?_
    refine Sq (Rg ?_)
    refine rp 1 rfl ?_
    refine Sn (Aw (Rt (Ar ?_)))
    refine at_ret1 rfl (rv_tmp rfl) ⟨_, ⟨by rw [overN, if_pos (.inl h1)], rfl⟩, ?_⟩
    try dsimp only [ca, na]
    exact ent
   ·skip
    refine ws (st_po (po_bf (po_move rfl) (decide_eq_false h1)) rfl rfl rfl ?_)
    refine rp 3 rfl ?_
    refine Wc (co_fn rfl rfl) (ref_Sector w h (stepN w h c s)) ?_
    rintro v24 _ ⟨rfl, rfl⟩
    try dsimp only [ca, na]
    refine rp 3 rfl ?_
    refine Wc (co_fn rfl rfl) (ref_Sector w h c) ?_
    rintro v28 _ ⟨rfl, rfl⟩
    try dsimp only [ca, na]
    refine Wp (po_eq rfl rfl) ?_
    refine rp 1 rfl ?_
    refine Sn (Aw ?_)
    refine Rc rfl ?_ ?_
    ·skip
     intro h2
     refine Sq (Rg ?_)
     refine rp 1 rfl ?_
     refine Sn (Aw (Rt (Ar ?_)))
     refine at_ret1 rfl (rv_tmp rfl) ⟨_, ⟨by rw [overN, if_pos (.inr h2)], rfl⟩, ?_⟩
     try dsimp only [ca, na]
     exact ent
    ·skip
     intro h2
     refine Sk (Aw (Sq (Rg ?_)))
     refine rp 2 rfl ?_
     refine Sn (Aw (Rt ?_))
     refine at_ret1 rfl (rv_tmp rfl) ⟨_, ⟨by rw [overN, if_neg (fun e => e.elim h1 h2)], rfl⟩, ?_⟩
     try dsimp only [ca, na]
     exact ent
theorem ref_Cells (w h s : Int) : Spec PP 66 #[.int .i64 w, .int .i64 h, .int .i64 s] [] (fun v M => M = [Sl eI v (cellsN w h s)]) := by
  have hz := size_le w h s
  have hb := mul_1k (a := (sizeN w h s).1) (b := (sizeN w h s).2) (by omega) (by omega) (by omega) (by omega)
  refine spec_of (Go.Proofs.Tryz.func66) rfl rfl rfl (by exact fc_enters_66) ?_
  intro g F
  try dsimp only [ca, na]
  refine Sq (Rg ?_)
  refine rp 1 rfl ?_
  refine Sn (Aw (Sq (Rg ?_)))
  refine rp 1 rfl ?_
  refine Sn (Aw (Sq (Rg ?_)))
  refine rp 3 rfl ?_
  refine Wc (co_fn rfl rfl) (ref_Size w h s) ?_
  rintro v18 _ ⟨rfl, rfl⟩
  try dsimp only [ca, na]
  refine rp 5 rfl ?_
  refine Sn (Aw (Sq (Sq (Rg ?_))))
  refine rp 1 rfl ?_
  refine Sn (Aw (Bk ?_))
  refine r_loop (S := Nat × Value × List Int) (fun ⟨l, ov, xs⟩ => [(7, ov), (10, .int .i64 l)]) [(0, _), (1, _), (2, _), (8, _), (9, _)] (fun ⟨l, ov, xs⟩ => [Sl eI ov xs, F]) (fun ⟨l, ov, xs⟩ => (l : Int) ≤ (sizeN w h s).1 * (sizeN w h s).2 ∧ xs = cellsTo w h s l) (fun ⟨l, ov, xs⟩ => ((sizeN w h s).1 * (sizeN w h s).2).toNat - l) ((0, .slice none 0 0, [])) (And.intro rfl (And.intro rfl (And.intro rfl (And.intro rfl (And.intro rfl (trivial)))))) (And.intro rfl (And.intro rfl (trivial))) (⟨by omega, rfl⟩) ent ?_
  rintro ⟨l, ov, xs⟩ ⟨hl, hxs⟩
  try dsimp only [ca, na]
  have hxl : xs.length ≤ l := by rw [hxs]; exact cellsTo_len w h s l
  refine Sq (Sq (Rg ?_))
  refine rp 3 rfl ?_
  refine Wp (po_mul' rfl rfl (by omega) (by omega)) ?_
  refine Wp (po_lt rfl rfl) ?_
  refine Sn (Aw ?_)
  refine Rc rfl ?_ ?_
  ·skip
   intro hlt
   refine Sk (Aw (Sq (Bk (Sq (Rg ?_)))))
   refine rp 4 rfl ?_
   refine Wc (co_fn rfl rfl) (ref_Global w h s l) ?_
   rintro v32 _ ⟨rfl, rfl⟩
   try dsimp only [ca, na]
   refine rp 1 rfl ?_
   refine Sn (Aw (Sq (Rg ?_)))
   refine rp 1 rfl ?_
   refine Sn (Aw (Sq (Sq (Rg ?_))))
   refine rp 1 rfl ?_
   refine Sn (Aw (Bk ?_))
   refine r_loop (S := Nat) (fun k => [(12, .bool (edgeTo w h s k l)), (13, .int .i64 k)]) [(0, _), (1, _), (2, _), (7, _), (8, _), (9, _), (10, _), (11, _)] (fun k => [Sl eI ov xs, F]) (fun k => k ≤ 4) (fun k => 4 - k) (0) (And.intro rfl (And.intro rfl (And.intro rfl (And.intro rfl (And.intro rfl (And.intro rfl (And.intro rfl (And.intro rfl (trivial))))))))) (And.intro rfl (And.intro rfl (trivial))) (by omega) ent ?_
   rintro k hk
   try dsimp only [ca, na]
   refine Sq (Sq (Rg ?_))
   refine rp 1 rfl ?_
   refine Wp (po_le rfl rfl) ?_
   refine Sn (Aw ?_)
   refine Rc rfl ?_ ?_
   ·skip
    intro hk3
    by_cases he : edgeTo w h s k l = true
    ·skip
     rw [he]
     refine Sk (Aw (Sq (Bk (Rg ?_))))
     refine rp 1 rfl ?_
     refine Wp (po_bt (po_move rfl) (rfl)) ?_
     refine rp 8 rfl ?_
     refine Sn (Bn (Aw (Rg ?_)))
     refine rp 1 rfl ?_
     refine Wp (po_add' rfl rfl (by omega) (by omega)) ?_
     refine rp 1 rfl ?_
     refine Sn ?_
     have e2 : true = edgeTo w h s (k + 1) l := by rw [edgeTo_succ, he]; rfl
     rw [e2]
     exact at_again (k + 1) (And.intro rfl (And.intro rfl (trivial))) (And.intro rfl (And.intro rfl (And.intro rfl (And.intro rfl (And.intro rfl (And.intro rfl (And.intro rfl (And.intro rfl (trivial))))))))) (by omega) (by omega) ent
    ·skip
     rw [Bool.not_eq_true] at he
     rw [he]
     refine Sk (Aw (Sq (Bk (Rg ?_))))
     refine rp 1 rfl ?_
     refine Wp (po_bf (po_move rfl) (rfl)) ?_
     refine rp 4 rfl ?_
     refine Wc (co_fn rfl rfl) (ref_Over w h (globalN w h s l) k) ?_
     rintro v43 _ ⟨rfl, rfl⟩
     try dsimp only [ca, na]
     refine Wp (po_ge rfl rfl) ?_
     refine rp 2 rfl ?_
     refine Sn (Bn (Aw (Rg ?_)))
     refine rp 1 rfl ?_
     refine Wp (po_add' rfl rfl (by omega) (by omega)) ?_
     refine rp 1 rfl ?_
     refine Sn ?_
     have e2 : decide (0 ≤ overN w h (globalN w h s l) k) = edgeTo w h s (k + 1) l := by rw [edgeTo_succ, he]; rfl
     rw [e2]
     exact at_again (k + 1) (And.intro rfl (And.intro rfl (trivial))) (And.intro rfl (And.intro rfl (And.intro rfl (And.intro rfl (And.intro rfl (And.intro rfl (And.intro rfl (And.intro rfl (trivial))))))))) (by omega) (by omega) ent
   ·skip
    intro hk3
    rw [show k = 4 by omega]
    refine Ex' (Ax (Ax (Bh (Aw (Sq (Rg ?_))))))
    refine rp 1 rfl ?_
    refine Sn (Aw ?_)
    refine Rc rfl ?_ ?_
    ·skip
     intro he
     refine Rg ?_
     refine rp 2 rfl ?_
     refine Wx (xo_bslice eI [_] rfl (by exact fc_slice_35_3_1) (by exact fc_elem_3_1_8) ⟨rfl, rfl, trivial⟩ rfl (by decide)) ?_
     rintro v49 _ rfl
     refine Wx (xo_append rfl rfl (by exact fc_slice_35_3_1) (by exact fc_slice_35_3_1) (by exact fc_elem_3_1_8) (by first | omega | (simp <;> omega)) (by first | omega | (simp <;> omega))) ?_
     rintro v50 _ rfl
     refine rp 1 rfl ?_
     refine Sn (Bn (Aw (Rg ?_)))
     refine rp 1 rfl ?_
     refine Wp (po_add' rfl rfl (by omega) (by omega)) ?_
     refine rp 1 rfl ?_
     refine Sn ?_
     exact at_again ((l + 1, v50, xs ++ [globalN w h s l])) (And.intro rfl (And.intro rfl (trivial))) (And.intro rfl (And.intro rfl (And.intro rfl (And.intro rfl (And.intro rfl (trivial)))))) (⟨by omega, by rw [cellsTo_succ, if_pos he, hxs]⟩) (by omega) ent
    ·skip
     intro he
     refine Sk (Bn (Aw (Rg ?_)))
     refine rp 1 rfl ?_
     refine Wp (po_add' rfl rfl (by omega) (by omega)) ?_
     refine rp 1 rfl ?_
     refine Sn ?_
     exact at_again ((l + 1, ov, xs)) (And.intro rfl (And.intro rfl (trivial))) (And.intro rfl (And.intro rfl (And.intro rfl (And.intro rfl (And.intro rfl (trivial)))))) (⟨by omega, by rw [cellsTo_succ, if_neg (by rw [he]; decide), hxs, List.append_nil]⟩) (by omega) ent
  ·skip
   intro hlt
   refine Ex' (Ax (Ax (Bh (Aw (Sq (Rg ?_))))))
   refine rp 2 rfl ?_
   refine Sn (Aw (Rt ?_))
   have e1 : xs = cellsN w h s := by rw [hxs, cellsN]; congr 1; omega
   subst e1
   refine at_ret1 rfl (rv_tmp rfl) ⟨_, rfl, ?_⟩
   try dsimp only [ca, na]
   exact ent
theorem ref_Nodes (q : GridS) (ok : GridOk q) (cv : Value) (s : Int) : Spec PP 33 #[mapV q.w q.h cv, .int .i64 s] [Sl eB cv q.c] (fun v M => M = [Sl eB cv q.c, Sl eI v (nodesN q.w q.h q.c s)]) := by
  have hcl := cells_len q.w q.h s
  refine spec_of (Go.Proofs.Tryz.func33) rfl rfl rfl (by exact fc_enters_33) ?_
  intro g F
  try dsimp only [ca, na]
  refine Sq (Rg ?_)
  refine Wx (xo_box rfl rfl) ?_
  rintro _ _ ⟨b2, rfl, rfl⟩
  refine rp 1 rfl ?_
  refine Sn (Aw (Sq (Rg ?_)))
  refine rp 1 rfl ?_
  refine Sn (Aw (Sq (Rg ?_)))
  refine Wp (po_faddr rfl (by exact fc_field_24_0_0)) ?_
  refine Wp (po_load rfl (by exact fc_flat_3) (by rfl)) ?_
  refine Wp (po_faddr rfl (by exact fc_field_24_1_1)) ?_
  refine Wp (po_load rfl (by exact fc_flat_3) (by rfl)) ?_
  refine rp 1 rfl ?_
  refine Wc (co_fn rfl rfl) (ref_Cells q.w q.h s) ?_
  rintro v13 _ rfl
  try dsimp only [ca, na]
  refine rp 1 rfl ?_
  refine Sn (Aw (Sq (Sq (Rg ?_))))
  refine rp 1 rfl ?_
  refine Sn (Aw (Bk ?_))
  refine r_loop (S := Nat × Value × List Int) (fun ⟨k, ov, xs⟩ => [(5, ov), (7, .int .i64 k)]) [(2, _), (6, _)] (fun ⟨k, ov, xs⟩ => [Blk b2 24 [.int .i64 q.w, .int .i64 q.h, cv], Sl eI v13 (cellsN q.w q.h s), Sl eI ov xs, Sl eB cv q.c, F]) (fun ⟨k, ov, xs⟩ => k ≤ (cellsN q.w q.h s).length ∧ xs = ((cellsN q.w q.h s).take k).filter fun i => decide (openN q.c i)) (fun ⟨k, ov, xs⟩ => (cellsN q.w q.h s).length - k) ((0, .slice none 0 0, [])) (And.intro rfl (And.intro rfl (trivial))) (And.intro rfl (And.intro rfl (trivial))) (⟨by omega, rfl⟩) ent ?_
  rintro ⟨k, ov, xs⟩ ⟨hk, hxs⟩
  try dsimp only [ca, na]
  have hxl : xs.length ≤ k := by rw [hxs]; have := List.length_filter_le (fun i => decide (openN q.c i)) ((cellsN q.w q.h s).take k); rw [List.length_take] at this; omega
  refine Sq (Sq (Rg ?_))
  refine rp 2 rfl ?_
  refine Wp (po_len rfl (by exact fc_slice_35_3_1)) ?_
  refine Wp (po_lt rfl rfl) ?_
  refine Sn (Aw ?_)
  refine Rc rfl ?_ ?_
  ·skip
   intro hlt
   have hkl : k < (cellsN q.w q.h s).length := by omega
   refine Sk (Aw (Sq (Bk (Sq ?_))))
   refine r_ord [] _ [(0, 0), (1, 1), (2, 1), (3, 0), (4, 0), (5, 2)] fc_mixed (by kernel_rfl) (fun _ h => h) ?_
   refine Or rfl (po_loada rfl (by exact fc_agg_24_3) (by rfl)) ?_
   refine Of rfl (po_move rfl) ?_
   refine Of rfl (po_move rfl) ?_
   refine Or rfl (po_iaddr rfl rfl (by exact fc_slice_35_3_1) (by first | omega | (simp <;> omega)) (by first | omega | (simp <;> omega))) ?_
   refine Or rfl (po_load_sl rfl (List.getElem?_eq_getElem (by first | omega | (simp <;> omega))) (by exact fc_flat_3) (by rfl)) ?_
   refine o_st rfl (st_call (co_fn rfl rfl) (ref_open q.w q.h cv q.c ((cellsN q.w q.h s)[(k : Int).toNat]'(by omega))) (by infer_instance) rfl rfl rfl ?_)
   rintro v25 _ ⟨rfl, rfl⟩
   try dsimp only [ca, na]
   refine ⟨fun _ => (by first | exact fun _ h => h | exact ent), ?_⟩
   refine o_nil ?_
   refine Aw ?_
   refine Rc rfl ?_ ?_
   ·skip
    intro ho
    refine Rg ?_
    refine rp 3 rfl ?_
    refine Wp (po_iaddr rfl rfl (by exact fc_slice_35_3_1) (by first | omega | (simp <;> omega)) (by first | omega | (simp <;> omega))) ?_
    refine Wp (po_load_sl rfl (List.getElem?_eq_getElem (by first | omega | (simp <;> omega))) (by exact fc_flat_3) (by rfl)) ?_
    refine Wx (xo_bslice eI [_] rfl (by exact fc_slice_35_3_1) (by exact fc_elem_3_1_8) ⟨rfl, rfl, trivial⟩ rfl (by decide)) ?_
    rintro v31 _ rfl
    refine Wx (xo_append rfl rfl (by exact fc_slice_35_3_1) (by exact fc_slice_35_3_1) (by exact fc_elem_3_1_8) (by first | omega | (simp <;> omega)) (by first | omega | (simp <;> omega))) ?_
    rintro v32 _ rfl
    refine rp 1 rfl ?_
    refine Sn (Bn (Aw (Rg ?_)))
    refine rp 1 rfl ?_
    refine Wp (po_add' rfl rfl (by omega) (by omega)) ?_
    refine rp 1 rfl ?_
    refine Sn ?_
    simp only [Int.toNat_natCast] at ho
    simp only [Int.toNat_natCast]
    exact at_again ((k + 1, v32, xs ++ [(cellsN q.w q.h s)[k]'hkl])) (And.intro rfl (And.intro rfl (trivial))) (And.intro rfl (And.intro rfl (trivial))) (⟨by omega, by rw [filter_snoc _ _ _ hkl, if_pos (decide_eq_true ((open_iff ok).2 ho)), hxs]⟩) (by omega) ent
   ·skip
    intro ho
    refine Sk (Bn (Aw (Rg ?_)))
    refine rp 1 rfl ?_
    refine Wp (po_add' rfl rfl (by omega) (by omega)) ?_
    refine rp 1 rfl ?_
    refine Sn ?_
    simp only [Int.toNat_natCast] at ho
    exact at_again ((k + 1, ov, xs)) (And.intro rfl (And.intro rfl (trivial))) (And.intro rfl (And.intro rfl (trivial))) (⟨by omega, by rw [filter_snoc _ _ _ hkl, if_neg (fun h => ho ((open_iff ok).1 (of_decide_eq_true h))), hxs, List.append_nil]⟩) (by omega) ent
  ·skip
   intro hlt
   refine Ex' (Ax (Ax (Bh (Aw (Sq (Rg ?_))))))
   refine rp 2 rfl ?_
   refine Sn (Aw (Rt ?_))
   have e1 : xs = nodesN q.w q.h q.c s := by rw [hxs, List.take_of_length_le (by omega)]; rfl
   subst e1
   refine at_ret1 rfl (rv_tmp rfl) ⟨_, rfl, ?_⟩
   try dsimp only [ca, na]
   exact ent
theorem fill_snd {q : GridS} (ok : GridOk q) {t : Int} (ht : Opn q.c t) : Snd q t ((List.replicate q.c.length INF).set t.toNat 0) := by
  have hI : INF = 1099511627776 := rfl
  have hl : (List.replicate q.c.length INF).length = q.c.length := by simp
  refine ⟨by simp, fun c h0 h1 => ?_, fun x hx => ?_, ?_⟩
  · rw [gAt_set ht.1 (by rw [hl]; exact ht.2.1) h0]
    split
    · rename_i e; subst e; have := (fl_is ok c).low c 0 ⟨ht, rfl, rfl⟩; omega
    · rw [gAt_get (by simp at h1 ⊢; omega), List.getElem_replicate]
      have := (fl_is ok t).rng c; omega
  · rcases List.mem_or_eq_of_mem_set hx with e | e
    · rw [List.eq_of_mem_replicate e]; omega
    · omega
  · rw [gAt_set ht.1 (by rw [hl]; exact ht.2.1) ht.1, if_pos rfl]
/-- what has been tried of a round: all cells ahead of the i-th, and the first k sides of c -/
def Pd (n : Int) (i : Int) (c k : Int) (x s : Int) : Prop := 0 ≤ s ∧ s < 4 ∧ ((0 ≤ x ∧ x < n ∧ (x < i ∨ n ≤ i ∧ 2 * n - 1 - i < x)) ∨ (x = c ∧ s < k))
theorem ref_Flat (q : GridS) (ok : GridOk q) (cv : Value) (t : Int) : Spec PP 13 #[mapV q.w q.h cv, .int .i64 t] [Sl eB cv q.c]
    (fun v M => ∃ d, M = [Sl eB cv q.c, Sl eI v d] ∧ d.length = q.c.length ∧ ∀ c : Int, 0 ≤ c → c < q.c.length → gAt d c = flD q t c) := by
  have hmul := may_mul ok.may
  have hlen := ok.len
  have hI : INF = 1099511627776 := rfl
  refine spec_of (Go.Proofs.Tryz.func13) rfl rfl rfl (by exact fc_enters_13) ?_
  intro g F
  try dsimp only [ca, na]
  refine Sq (Rg ?_)
  refine Wx (xo_box rfl rfl) ?_
  rintro _ _ ⟨b2, rfl, rfl⟩
  refine rp 1 rfl ?_
  refine Sn (Aw (Sq (Rg ?_)))
  refine Wp (po_faddr rfl (by exact fc_field_24_2_2)) ?_
  refine Wp (po_load rfl (by exact fc_flat_22) (by rfl)) ?_
  refine Wp (po_len rfl (by exact fc_slice_22_5_1)) ?_
  refine rp 1 rfl ?_
  refine Sn (Aw (Sq (Rg ?_)))
  refine rp 1 rfl ?_
  refine Wx (xo_make eI (0) rfl rfl (by exact fc_slice_35_3_1) (by exact fc_elem_3_1_8) (by exact fc_zero_3) rfl (by first | omega | (simp <;> omega)) (by first | omega | (simp <;> omega)) (by first | omega | (simp <;> omega))) ?_
  rintro v17 _ rfl
  refine rp 1 rfl ?_
  refine Sn (Aw (Sq (Sq (Rg ?_))))
  refine rp 1 rfl ?_
  refine Sn (Aw (Bk ?_))
  rw [show ((q.c.length : Nat) : Int).toNat = q.c.length from by omega, fill2_0 INF 0]
  refine r_loop (S := Nat) (fun k => [(7, .int .i64 k)]) [(1, _), (2, _), (5, _), (6, _)] (fun k => [Blk b2 24 [.int .i64 q.w, .int .i64 q.h, cv], Sl eI v17 (fill2 INF 0 q.c.length k), Sl eB cv q.c, F]) (fun k => k ≤ q.c.length) (fun k => q.c.length - k) (0) (And.intro rfl (And.intro rfl (And.intro rfl (And.intro rfl (trivial))))) (And.intro rfl (trivial)) (by omega) ent ?_
  rintro k hk
  try dsimp only [ca, na]
  have hll := fill2_len INF (0 : Int) hk
  refine Sq (Sq (Rg ?_))
  refine rp 2 rfl ?_
  refine Wp (po_lt rfl rfl) ?_
  refine Sn (Aw ?_)
  refine Rc rfl ?_ ?_
  ·skip
   intro hlt
   refine Sk (Aw (Sq (Bk (Rg ?_))))
   refine rp 2 rfl ?_
   refine Wp (po_iaddr rfl rfl (by exact fc_slice_35_3_1) (by first | omega | (simp <;> omega)) (by first | omega | (simp <;> omega))) ?_
   refine Ws (so_store_sl rfl rfl (List.getElem?_eq_getElem (by first | omega | (simp <;> omega))) (by exact fc_flat_3) (by decide) (by rfl) (by rfl)) ?_
   refine Sn (Bn (Aw (Rg ?_)))
   refine rp 1 rfl ?_
   refine Wp (po_add' rfl rfl (by omega) (by omega)) ?_
   refine rp 1 rfl ?_
   refine Sn ?_
   simp only [Int.toNat_natCast]
   rw [show (1099511627776 : Int) = INF from rfl, fill2_set _ _ (by omega)]
   exact at_again (k + 1) (And.intro rfl (trivial)) (And.intro rfl (And.intro rfl (And.intro rfl (And.intro rfl (trivial))))) (by omega) (by omega) ent
  ·skip
   intro hlt
   rw [show k = q.c.length by omega, fill2_n]
   refine Ex' (Ax (Ax (Bh (Aw (Sq (Sq (Rg ?_)))))))
   refine Wp (po_loada rfl (by exact fc_agg_24_3) (by rfl)) ?_
   refine rp 1 rfl ?_
   refine Wc (co_fn rfl rfl) (ref_open q.w q.h cv q.c t) ?_
   rintro v28 _ ⟨rfl, rfl⟩
   try dsimp only [ca, na]
   refine Wp (po_not rfl) ?_
   refine Sn (Aw ?_)
   refine Rc rfl ?_ ?_
   ·skip
    intro ho
    refine Sq (Rg ?_)
    refine rp 2 rfl ?_
    refine Sn (Aw (Rt (Ar ?_)))
    refine at_ret1 rfl (rv_tmp rfl) ⟨_, ⟨List.replicate q.c.length INF, rfl, by simp, fun c h0 h1 => by
      rw [gAt_get (by simp; omega), List.getElem_replicate]
      rcases (fl_is ok t).tight c with e | e | e
      · exact e.symm
      · exact absurd e.1 ho
      · exact (flD_none ok ho c).symm⟩, ?_⟩
    try dsimp only [ca, na]
    exact ent
   ·skip
    intro ho
    have hts : t.toNat < (List.replicate q.c.length INF).length := by have := ho.1; have := ho.2.1; simp; omega
    have htl : 0 ≤ t ∧ t < (List.replicate q.c.length INF).length := by have := ho.1; have := ho.2.1; simp; omega
    refine Sk (Aw (Sq (Rg ?_)))
    refine rp 2 rfl ?_
    refine Wp (po_iaddr rfl rfl (by exact fc_slice_35_3_1) (by first | omega | (simp <;> omega)) (by first | omega | (simp <;> omega))) ?_
    refine Ws (so_store_sl rfl rfl (List.getElem?_eq_getElem (by first | omega | (simp <;> omega))) (by exact fc_flat_3) (by decide) (by rfl) (by rfl)) ?_
    refine Sn (Aw (Sq (Sq (Rg ?_))))
    refine rp 1 rfl ?_
    refine Sn (Aw (Bk ?_))
    refine r_loop (S := Bool × List Int) (fun ⟨a, d⟩ => [(8, .bool a)]) [(2, _), (5, _), (6, _)] (fun ⟨a, d⟩ => [Blk b2 24 [.int .i64 q.w, .int .i64 q.h, cv], Sl eI v17 d, Sl eB cv q.c, F]) (fun ⟨a, d⟩ => Snd q t d ∧ (a = false → ∀ c s : Int, 0 ≤ s ∧ s < 4 → ¬ Less q d c s)) (fun ⟨a, d⟩ => 2 * sumN d + (if a = true then 1 else 0)) ((true, (List.replicate q.c.length INF).set t.toNat 0)) (And.intro rfl (And.intro rfl (And.intro rfl (trivial)))) (And.intro rfl (trivial)) (⟨fill_snd ok ho, fun h => by cases h⟩) ent ?_
    rintro ⟨a, d⟩ ⟨hsd, hcl⟩
    try dsimp only [ca, na]
    have hdl := hsd.len
    refine Sq (Sq (Rg ?_))
    refine rp 1 rfl ?_
    refine Sn (Aw ?_)
    refine Rc rfl ?_ ?_
    ·skip
     intro ha
     refine Sk (Aw (Bk (Sq (Rg ?_))))
     refine rp 1 rfl ?_
     refine Sn (Aw (Sq (Rg ?_)))
     refine rp 1 rfl ?_
     refine Sn (Aw (Bk ?_))
     refine r_loop (S := Bool × List Int × Nat) (fun ⟨b, e, i⟩ => [(8, .bool b), (9, .int .i64 i)]) [(2, _), (5, _), (6, _)] (fun ⟨b, e, i⟩ => [Blk b2 24 [.int .i64 q.w, .int .i64 q.h, cv], Sl eI v17 e, Sl eB cv q.c, F]) (fun ⟨b, e, i⟩ => i ≤ 2 * q.c.length ∧ Rnd q t d b e (Pd q.c.length i 0 0)) (fun ⟨b, e, i⟩ => 2 * q.c.length - i) ((false, d, 0)) (And.intro rfl (And.intro rfl (And.intro rfl (trivial)))) (And.intro rfl (And.intro rfl (trivial))) (⟨by omega, hsd, fun _ => ⟨rfl, fun c s hp => by unfold Pd at hp; omega⟩, fun h => by cases h⟩) ent ?_
     rintro ⟨b, e, i⟩ ⟨hi, hr⟩
     try dsimp only [ca, na]
     have hel := hr.snd.len
     refine Sq (Sq (Rg ?_))
     refine rp 2 rfl ?_
     refine Wp (po_mul' rfl rfl (by omega) (by omega)) ?_
     refine Wp (po_lt rfl rfl) ?_
     refine Sn (Aw ?_)
     refine Rc rfl ?_ ?_
     ·skip
      intro hlt
      refine Sk (Aw (Sq (Bk (Sq (Rg ?_)))))
      refine rp 2 rfl ?_
      refine Sn (Aw ?_)
      refine r_joink (S := Int) (fun c => [(10, .int .i64 c)]) [(2, _), (5, _), (6, _), (8, _), (9, _)] (fun c => [Blk b2 24 [.int .i64 q.w, .int .i64 q.h, cv], Sl eI v17 e, Sl eB cv q.c, F]) (fun c => 0 ≤ c ∧ c < q.c.length ∧ (c = i ∨ q.c.length ≤ i ∧ c = 2 * q.c.length - 1 - i)) (And.intro rfl (And.intro rfl (And.intro rfl (And.intro rfl (And.intro rfl (trivial)))))) ?_ ?_
      ·skip
       refine Sq (Rg ?_)
       refine rp 2 rfl ?_
       refine Wp (po_ge rfl rfl) ?_
       refine Sn (Aw ?_)
       refine Rc rfl ?_ ?_
       ·skip
        intro hge
        refine Rg ?_
        refine rp 1 rfl ?_
        refine Wp (po_mul' rfl rfl (by omega) (by omega)) ?_
        refine Wp (po_sub' rfl rfl (by omega) (by omega)) ?_
        refine rp 1 rfl ?_
        refine Wp (po_sub' rfl rfl (by omega) (by omega)) ?_
        refine rp 1 rfl ?_
        refine Sn ?_
        exact at_join ((2 * (q.c.length : Int) - 1 - i)) (And.intro rfl (trivial)) (And.intro rfl (And.intro rfl (And.intro rfl (And.intro rfl (And.intro rfl (trivial)))))) (by omega) ent
       ·skip
        intro hge
        refine Sk ?_
        exact at_join ((i : Int)) (And.intro rfl (trivial)) (And.intro rfl (And.intro rfl (And.intro rfl (And.intro rfl (And.intro rfl (trivial)))))) (by omega) ent
      ·skip
       rintro c ⟨hc0, hc1, hci⟩
       try dsimp only [ca, na]
       have hcc := ok.bt _ (List.getElem_mem (show c.toNat < q.c.length by omega))
       have hgc : gAt q.c c = q.c[c.toNat]'(by omega) := gAt_get (by omega)
       refine Sq (Rg ?_)
       refine rp 1 rfl ?_
       refine Sn (Aw (Bk ?_))
       refine r_loop (S := Bool × List Int × Nat) (fun ⟨b, e, k⟩ => [(8, .bool b), (11, .int .i64 k)]) [(2, _), (5, _), (6, _), (9, _), (10, _)] (fun ⟨b, e, k⟩ => [Blk b2 24 [.int .i64 q.w, .int .i64 q.h, cv], Sl eI v17 e, Sl eB cv q.c, F]) (fun ⟨b, e, k⟩ => k ≤ 4 ∧ Rnd q t d b e (Pd q.c.length i c k)) (fun ⟨b, e, k⟩ => 4 - k) ((b, e, 0)) (And.intro rfl (And.intro rfl (And.intro rfl (And.intro rfl (And.intro rfl (trivial)))))) (And.intro rfl (And.intro rfl (trivial))) (⟨by omega, hr.mono (fun x s hp => .inl (by unfold Pd at hp ⊢; omega))⟩) ent ?_
       rintro ⟨b, e, k⟩ ⟨hk, hr2⟩
       try dsimp only [ca, na]
       have hel2 := hr2.snd.len
       refine Sq (Sq (Rg ?_))
       refine rp 1 rfl ?_
       refine Wp (po_le rfl rfl) ?_
       by_cases hk3 : (k : Int) ≤ 3
       ·skip
        refine ws (st_po (po_bt (po_move rfl) (decide_eq_true hk3)) rfl rfl rfl ?_)
        refine Wp (po_faddr rfl (by exact fc_field_24_2_2)) ?_
        refine Wp (po_load rfl (by exact fc_flat_22) (by rfl)) ?_
        refine rp 1 rfl ?_
        refine Wp (po_iaddr rfl rfl (by exact fc_slice_22_5_1) (by first | omega | (simp <;> omega)) (by first | omega | (simp <;> omega))) ?_
        refine Wp (po_load_sl rfl (List.getElem?_eq_getElem (by first | omega | (simp <;> omega))) (by exact fc_flat_5) (by rfl)) ?_
        refine Wp (po_ne rfl rfl) ?_
        refine rp 1 rfl ?_
        refine Sn (Aw ?_)
        refine Rc rfl ?_ ?_
        ·skip
         intro hop
         have hoc : Opn q.c c := ⟨hc0, hc1, by rw [hgc]; exact hop⟩
         have hisc := opn_isC ok hoc
         have hst := (step_ok hisc (show (0 : Int) ≤ k by omega) (by omega)).2
         have hpd : ∀ x s : Int, Pd q.c.length i c ((k : Int) + 1) x s → Pd q.c.length i c k x s ∨ (x = c ∧ s = (k : Int)) := fun x s hp => by unfold Pd at hp ⊢; omega
         refine Sk (Aw (Sq (Bk (Sq (Rg ?_)))))
         refine Wp (po_faddr rfl (by exact fc_field_24_0_0)) ?_
         refine Wp (po_load rfl (by exact fc_flat_3) (by rfl)) ?_
         refine Wp (po_faddr rfl (by exact fc_field_24_1_1)) ?_
         refine Wp (po_load rfl (by exact fc_flat_3) (by rfl)) ?_
         refine rp 2 rfl ?_
         refine Wc (co_fn rfl rfl) (ref_Step q.w q.h c k) ?_
         rintro v68 _ ⟨rfl, rfl⟩
         try dsimp only [ca, na]
         refine rp 1 rfl ?_
         refine Sn (Aw (Sq ?_))
         refine r_ord [] _ [(0, 1), (1, 1), (2, 1), (3, 1), (4, 0), (5, 1), (6, 0), (7, 0), (8, 1), (9, 1), (10, 1), (11, 1), (12, 1), (13, 0), (14, 0), (15, 1), (16, 1), (17, 1), (18, 1), (19, 1), (20, 0), (21, 0), (22, 1), (23, 0), (24, 1), (25, 0), (26, 0), (27, 1), (28, 1), (29, 1), (30, 1), (31, 0), (32, 0), (33, 1), (34, 1)] fc_mixed (by kernel_rfl) (fun _ h => h) ?_
         refine Of rfl (po_move rfl) ?_
         refine Of rfl (po_ge rfl rfl) ?_
         by_cases h0 : 0 ≤ stepN q.w q.h c k
         ·skip
          refine o_fr rfl (po_bt (po_move rfl) (decide_eq_true h0)) rfl rfl rfl ?_
          have hso := hst h0
          have hol := ok.isc.1 hso.1
          have hgo : gAt q.c (stepN q.w q.h c k) = q.c[(stepN q.w q.h c k).toNat]'(by omega) := gAt_get (by omega)
          have hbo := ok.bt _ (List.getElem_mem (show (stepN q.w q.h c k).toNat < q.c.length by omega))
          have heo : gAt e (stepN q.w q.h c k) = e[(stepN q.w q.h c k).toNat]'(by omega) := gAt_get (by omega)
          have hec : gAt e c = e[c.toNat]'(by omega) := gAt_get (by omega)
          have hho := hr2.snd.hi _ (List.getElem_mem (show (stepN q.w q.h c k).toNat < e.length by omega))
          refine Of rfl (po_faddr rfl (by exact fc_field_24_2_2)) ?_
          refine Or rfl (po_load rfl (by exact fc_flat_22) (by rfl)) ?_
          refine Of rfl (po_move rfl) ?_
          refine Or rfl (po_iaddr rfl rfl (by exact fc_slice_22_5_1) (by first | omega | (simp <;> omega)) (by first | omega | (simp <;> omega))) ?_
          refine Or rfl (po_load_sl rfl (List.getElem?_eq_getElem (by first | omega | (simp <;> omega))) (by exact fc_flat_5) (by rfl)) ?_
          refine Of rfl (po_ne rfl rfl) ?_
          refine Of rfl (po_pick_t rfl rfl) ?_
          by_cases h1 : q.c[(stepN q.w q.h c k).toNat]'(by omega) ≠ 255
          ·skip
           refine o_fr rfl (po_bt (po_move rfl) (decide_eq_true h1)) rfl rfl rfl ?_
           refine Of rfl (po_move rfl) ?_
           refine Of rfl (po_move rfl) ?_
           refine Or rfl (po_iaddr rfl rfl (by exact fc_slice_35_3_1) (by first | omega | (simp <;> omega)) (by first | omega | (simp <;> omega))) ?_
           refine Or rfl (po_load_sl rfl (List.getElem?_eq_getElem (by first | omega | (simp <;> omega))) (by exact fc_flat_3) (by rfl)) ?_
           refine Of rfl (po_lt rfl rfl) ?_
           refine Of rfl (po_pick_t rfl rfl) ?_
           by_cases h2 : e[(stepN q.w q.h c k).toNat]'(by omega) < 1099511627776
           ·skip
            refine o_fr rfl (po_bt (po_move rfl) (decide_eq_true h2)) rfl rfl rfl ?_
            refine Of rfl (po_move rfl) ?_
            refine Of rfl (po_move rfl) ?_
            refine Or rfl (po_iaddr rfl rfl (by exact fc_slice_35_3_1) (by first | omega | (simp <;> omega)) (by first | omega | (simp <;> omega))) ?_
            refine Or rfl (po_load_sl rfl (List.getElem?_eq_getElem (by first | omega | (simp <;> omega))) (by exact fc_flat_3) (by rfl)) ?_
            refine Of rfl (po_faddr rfl (by exact fc_field_24_2_2)) ?_
            refine Or rfl (po_load rfl (by exact fc_flat_22) (by rfl)) ?_
            refine Of rfl (po_move rfl) ?_
            refine Or rfl (po_iaddr rfl rfl (by exact fc_slice_22_5_1) (by first | omega | (simp <;> omega)) (by first | omega | (simp <;> omega))) ?_
            refine Or rfl (po_load_sl rfl (List.getElem?_eq_getElem (by first | omega | (simp <;> omega))) (by exact fc_flat_5) (by rfl)) ?_
            refine Of rfl (po_conv_w rfl (by exact fc_int_5_u8) (by exact fc_int_3_i64) (wrap_i64 _ (by omega) (by omega))) ?_
            refine Of rfl (po_add' rfl rfl (by omega) (by omega)) ?_
            refine Of rfl (po_move rfl) ?_
            refine Of rfl (po_move rfl) ?_
            refine Or rfl (po_iaddr rfl rfl (by exact fc_slice_35_3_1) (by first | omega | (simp <;> omega)) (by first | omega | (simp <;> omega))) ?_
            refine Or rfl (po_load_sl rfl (List.getElem?_eq_getElem (by first | omega | (simp <;> omega))) (by exact fc_flat_3) (by rfl)) ?_
            refine Of rfl (po_lt rfl rfl) ?_
            refine Of rfl (po_pick_t rfl rfl) ?_
            refine o_nil ?_
            refine Aw ?_
            refine Rc rfl ?_ ?_
            ·skip
             intro h3
             have hls : Less q e c k := ⟨h0, hoc, ⟨hol.1, hol.2, by rw [hgo]; exact h1⟩, by rw [heo]; exact h2, by rw [heo, hgo, hec]; exact h3⟩
             refine Sq ?_
             refine r_ord [14] _ [(0, 1), (1, 1), (2, 1), (3, 1), (4, 0), (5, 0), (6, 1), (7, 0), (8, 1), (9, 0), (10, 0), (11, 1), (12, 1), (13, 0), (14, 2)] fc_mixed (by kernel_rfl) (fun _ h => h) ?_
             refine Of rfl (po_move rfl) ?_
             refine Of rfl (po_move rfl) ?_
             refine Of rfl (po_move rfl) ?_
             refine Of rfl (po_move rfl) ?_
             refine Or rfl (po_iaddr rfl rfl (by exact fc_slice_35_3_1) (by first | omega | (simp <;> omega)) (by first | omega | (simp <;> omega))) ?_
             refine Or rfl (po_load_sl rfl (List.getElem?_eq_getElem (by first | omega | (simp <;> omega))) (by exact fc_flat_3) (by rfl)) ?_
             refine Of rfl (po_faddr rfl (by exact fc_field_24_2_2)) ?_
             refine Or rfl (po_load rfl (by exact fc_flat_22) (by rfl)) ?_
             refine Of rfl (po_move rfl) ?_
             refine Or rfl (po_iaddr rfl rfl (by exact fc_slice_22_5_1) (by first | omega | (simp <;> omega)) (by first | omega | (simp <;> omega))) ?_
             refine Or rfl (po_load_sl rfl (List.getElem?_eq_getElem (by first | omega | (simp <;> omega))) (by exact fc_flat_5) (by rfl)) ?_
             refine Of rfl (po_conv_w rfl (by exact fc_int_5_u8) (by exact fc_int_3_i64) (wrap_i64 _ (by omega) (by omega))) ?_
             refine Of rfl (po_add' rfl rfl (by omega) (by omega)) ?_
             refine Or rfl (po_iaddr rfl rfl (by exact fc_slice_35_3_1) (by first | omega | (simp <;> omega)) (by first | omega | (simp <;> omega))) ?_
             refine o_st rfl (st_so (so_store_sl rfl rfl (List.getElem?_eq_getElem (by first | omega | (simp <;> omega))) (by exact fc_flat_3) (by decide) (by rfl) (by rfl)) rfl rfl ?_)
             refine ⟨fun h => late_no h (by kernel_rfl), ?_⟩
             refine o_nil ?_
             refine Aw (Rg ?_)
             refine rp 1 rfl ?_
             refine Sn (Bn (Aw (Rg ?_)))
             refine rp 1 rfl ?_
             refine Wp (po_add' rfl rfl (by omega) (by omega)) ?_
             refine rp 1 rfl ?_
             refine Sn ?_
             rw [← heo, ← hgo]
             exact at_again ((true, e.set c.toNat (gAt e (stepN q.w q.h c k) + gAt q.c (stepN q.w q.h c k)), k + 1)) (And.intro rfl (And.intro rfl (trivial))) (And.intro rfl (And.intro rfl (And.intro rfl (And.intro rfl (And.intro rfl (trivial)))))) (⟨by dsimp only; omega, hr2.less ok ho ⟨by omega, by omega⟩ hls⟩) (by dsimp only; omega) ent
            ·skip
             intro h3
             refine Sk (Bn (Aw (Rg ?_)))
             refine rp 1 rfl ?_
             refine Wp (po_add' rfl rfl (by omega) (by omega)) ?_
             refine rp 1 rfl ?_
             refine Sn ?_
             exact at_again ((b, e, k + 1)) (And.intro rfl (And.intro rfl (trivial))) (And.intro rfl (And.intro rfl (And.intro rfl (And.intro rfl (And.intro rfl (trivial)))))) (⟨by dsimp only; omega, hr2.skip (fun hl => h3 (by have := hl.2.2.2.2; rw [heo, hgo, hec] at this; exact this)) (fun x s hp => hpd x s hp)⟩) (by dsimp only; omega) ent
           ·skip
            refine o_fr rfl (po_bf (po_move rfl) (decide_eq_false h2)) rfl rfl rfl ?_
            refine o_no rfl rfl rfl rfl ?_
            refine o_no rfl rfl rfl rfl ?_
            refine o_nor rfl (by first | exact fun _ h => h | exact ent) rfl rfl rfl ?_
            refine o_nor rfl (by first | exact fun _ h => h | exact ent) rfl rfl rfl ?_
            refine o_no rfl rfl rfl rfl ?_
            refine o_nor rfl (by first | exact fun _ h => h | exact ent) rfl rfl rfl ?_
            refine o_no rfl rfl rfl rfl ?_
            refine o_nor rfl (by first | exact fun _ h => h | exact ent) rfl rfl rfl ?_
            refine o_nor rfl (by first | exact fun _ h => h | exact ent) rfl rfl rfl ?_
            refine o_no rfl rfl rfl rfl ?_
            refine o_no rfl rfl rfl rfl ?_
            refine o_no rfl rfl rfl rfl ?_
            refine o_no rfl rfl rfl rfl ?_
            refine o_nor rfl (by first | exact fun _ h => h | exact ent) rfl rfl rfl ?_
            refine o_nor rfl (by first | exact fun _ h => h | exact ent) rfl rfl rfl ?_
            refine o_no rfl rfl rfl rfl ?_
            refine Of rfl (po_pick_f rfl rfl) ?_
            refine o_nil ?_
            refine Aw ?_
            refine r_cond_f rfl rfl ?_
            refine Sk (Bn (Aw (Rg ?_)))
            refine rp 1 rfl ?_
            refine Wp (po_add' rfl rfl (by omega) (by omega)) ?_
            refine rp 1 rfl ?_
            refine Sn ?_
            exact at_again ((b, e, k + 1)) (And.intro rfl (And.intro rfl (trivial))) (And.intro rfl (And.intro rfl (And.intro rfl (And.intro rfl (And.intro rfl (trivial)))))) (⟨by dsimp only; omega, hr2.skip (fun hl => h2 (by have := hl.2.2.2.1; rw [heo] at this; exact this)) (fun x s hp => hpd x s hp)⟩) (by dsimp only; omega) ent
          ·skip
           refine o_fr rfl (po_bf (po_move rfl) (decide_eq_false h1)) rfl rfl rfl ?_
           refine o_no rfl rfl rfl rfl ?_
           refine o_no rfl rfl rfl rfl ?_
           refine o_nor rfl (by first | exact fun _ h => h | exact ent) rfl rfl rfl ?_
           refine o_nor rfl (by first | exact fun _ h => h | exact ent) rfl rfl rfl ?_
           refine o_no rfl rfl rfl rfl ?_
           refine Of rfl (po_pick_f rfl rfl) ?_
           refine Of rfl (po_move rfl) ?_
           refine o_no rfl rfl rfl rfl ?_
           refine o_no rfl rfl rfl rfl ?_
           refine o_nor rfl (by first | exact fun _ h => h | exact ent) rfl rfl rfl ?_
           refine o_nor rfl (by first | exact fun _ h => h | exact ent) rfl rfl rfl ?_
           refine o_no rfl rfl rfl rfl ?_
           refine o_nor rfl (by first | exact fun _ h => h | exact ent) rfl rfl rfl ?_
           refine o_no rfl rfl rfl rfl ?_
           refine o_nor rfl (by first | exact fun _ h => h | exact ent) rfl rfl rfl ?_
           refine o_nor rfl (by first | exact fun _ h => h | exact ent) rfl rfl rfl ?_
           refine o_no rfl rfl rfl rfl ?_
           refine o_no rfl rfl rfl rfl ?_
           refine o_no rfl rfl rfl rfl ?_
           refine o_no rfl rfl rfl rfl ?_
           refine o_nor rfl (by first | exact fun _ h => h | exact ent) rfl rfl rfl ?_
           refine o_nor rfl (by first | exact fun _ h => h | exact ent) rfl rfl rfl ?_
           refine o_no rfl rfl rfl rfl ?_
           refine Of rfl (po_pick_f rfl rfl) ?_
           refine o_nil ?_
           refine Aw ?_
           refine r_cond_f rfl rfl ?_
           refine Sk (Bn (Aw (Rg ?_)))
           refine rp 1 rfl ?_
           refine Wp (po_add' rfl rfl (by omega) (by omega)) ?_
           refine rp 1 rfl ?_
           refine Sn ?_
           exact at_again ((b, e, k + 1)) (And.intro rfl (And.intro rfl (trivial))) (And.intro rfl (And.intro rfl (And.intro rfl (And.intro rfl (And.intro rfl (trivial)))))) (⟨by dsimp only; omega, hr2.skip (fun hl => h1 (by have := hl.2.2.1.2.2; rw [hgo] at this; exact this)) (fun x s hp => hpd x s hp)⟩) (by dsimp only; omega) ent
         ·skip
          refine o_fr rfl (po_bf (po_move rfl) (decide_eq_false h0)) rfl rfl rfl ?_
          refine o_no rfl rfl rfl rfl ?_
          refine o_nor rfl (by first | exact fun _ h => h | exact ent) rfl rfl rfl ?_
          refine o_no rfl rfl rfl rfl ?_
          refine o_nor rfl (by first | exact fun _ h => h | exact ent) rfl rfl rfl ?_
          refine o_nor rfl (by first | exact fun _ h => h | exact ent) rfl rfl rfl ?_
          refine o_no rfl rfl rfl rfl ?_
          refine Of rfl (po_pick_f rfl rfl) ?_
          refine Of rfl (po_move rfl) ?_
          refine o_no rfl rfl rfl rfl ?_
          refine o_no rfl rfl rfl rfl ?_
          refine o_nor rfl (by first | exact fun _ h => h | exact ent) rfl rfl rfl ?_
          refine o_nor rfl (by first | exact fun _ h => h | exact ent) rfl rfl rfl ?_
          refine o_no rfl rfl rfl rfl ?_
          refine Of rfl (po_pick_f rfl rfl) ?_
          refine Of rfl (po_move rfl) ?_
          refine o_no rfl rfl rfl rfl ?_
          refine o_no rfl rfl rfl rfl ?_
          refine o_nor rfl (by first | exact fun _ h => h | exact ent) rfl rfl rfl ?_
          refine o_nor rfl (by first | exact fun _ h => h | exact ent) rfl rfl rfl ?_
          refine o_no rfl rfl rfl rfl ?_
          refine o_nor rfl (by first | exact fun _ h => h | exact ent) rfl rfl rfl ?_
          refine o_no rfl rfl rfl rfl ?_
          refine o_nor rfl (by first | exact fun _ h => h | exact ent) rfl rfl rfl ?_
          refine o_nor rfl (by first | exact fun _ h => h | exact ent) rfl rfl rfl ?_
          refine o_no rfl rfl rfl rfl ?_
          refine o_no rfl rfl rfl rfl ?_
          refine o_no rfl rfl rfl rfl ?_
          refine o_no rfl rfl rfl rfl ?_
          refine o_nor rfl (by first | exact fun _ h => h | exact ent) rfl rfl rfl ?_
          refine o_nor rfl (by first | exact fun _ h => h | exact ent) rfl rfl rfl ?_
          refine o_no rfl rfl rfl rfl ?_
          refine Of rfl (po_pick_f rfl rfl) ?_
          refine o_nil ?_
          refine Aw ?_
          refine r_cond_f rfl rfl ?_
          refine Sk (Bn (Aw (Rg ?_)))
          refine rp 1 rfl ?_
          refine Wp (po_add' rfl rfl (by omega) (by omega)) ?_
          refine rp 1 rfl ?_
          refine Sn ?_
          exact at_again ((b, e, k + 1)) (And.intro rfl (And.intro rfl (trivial))) (And.intro rfl (And.intro rfl (And.intro rfl (And.intro rfl (And.intro rfl (trivial)))))) (⟨by dsimp only; omega, hr2.skip (fun hl => h0 hl.1) (fun x s hp => hpd x s hp)⟩) (by dsimp only; omega) ent
        ·skip
         intro hop
         refine Ex' (Ax (Ax (Bh (Bn (Aw (Rg ?_))))))
         refine rp 1 rfl ?_
         refine Wp (po_add' rfl rfl (by omega) (by omega)) ?_
         refine rp 1 rfl ?_
         refine Sn ?_
         exact at_again ((b, e, i + 1)) (And.intro rfl (And.intro rfl (trivial))) (And.intro rfl (And.intro rfl (And.intro rfl (trivial)))) (⟨by dsimp only; omega, hr2.mono (fun x s hp => by
      by_cases ex : x = c
      · subst ex; exact .inr (fun ho => ho.2.2 (by rw [hgc]; exact Classical.not_not.1 hop))
      · left; unfold Pd at hp ⊢; dsimp only at hp; omega)⟩) (by dsimp only; omega) ent
       ·skip
        refine ws (st_po (po_bf (po_move rfl) (decide_eq_false hk3)) rfl rfl rfl ?_)
        refine rp 7 rfl ?_
        refine Sn (Aw ?_)
        refine r_cond_f rfl rfl ?_
        refine Ex' (Ax (Ax (Bh (Bn (Aw (Rg ?_))))))
        refine rp 1 rfl ?_
        refine Wp (po_add' rfl rfl (by omega) (by omega)) ?_
        refine rp 1 rfl ?_
        refine Sn ?_
        exact at_again ((b, e, i + 1)) (And.intro rfl (And.intro rfl (trivial))) (And.intro rfl (And.intro rfl (And.intro rfl (trivial)))) (⟨by dsimp only; omega, hr2.mono (fun x s hp => .inl (by unfold Pd at hp ⊢; dsimp only at hp; omega))⟩) (by dsimp only; omega) ent
     ·skip
      intro hlt
      refine Ex' (Ax (Ax (Bh (Bn ?_))))
      exact at_again ((b, e)) (And.intro rfl (trivial)) (And.intro rfl (And.intro rfl (And.intro rfl (trivial)))) (⟨hr.snd, fun hb c s hs hl => by
      obtain ⟨e1, e2⟩ := hr.no hb
      rw [e1] at hl
      exact e2 c s (by have := hl.2.1.1; have := hl.2.1.2.1; unfold Pd; omega) hl⟩) (by
      dsimp only
      rw [ha]
      cases b with
      | false => rw [(hr.no rfl).1]; simp
      | true => have := hr.yes rfl; simp; omega) ent
    ·skip
     intro ha
     refine Ex' (Ax (Ax (Bh (Aw (Sq (Rg ?_))))))
     refine rp 2 rfl ?_
     refine Sn (Aw (Rt ?_))
     refine at_ret1 rfl (rv_tmp rfl) ⟨_, ⟨d, rfl, hsd.len, fun c h0 h1 => hsd.closed ok ho (hcl (by simpa using ha)) c h0 (by omega)⟩, ?_⟩
     try dsimp only [ca, na]
     exact ent
end Hd
end
section
namespace Hd
set_option maxRecDepth 100000
open Go

theorem ref_before (a b : Seed) : Spec PP 67 #[.agg #[.int .i64 a.cell, .int .i64 a.side, .int .i64 a.key], .agg #[.int .i64 b.cell, .int .i64 b.side, .int .i64 b.key]] [] (fun v M => v = .bool (decide (ltS a b)) ∧ M = []) := by
  refine spec_of (Go.Proofs.Tryz.func67) rfl rfl rfl (by exact fc_enters_67) ?_
  intro g F
  try dsimp only [ca, na]
  refine Sq (Rg ?_)
  refine Wx (xo_box rfl rfl) ?_
  rintro _ _ ⟨b2, rfl, rfl⟩
  refine Wx (xo_box rfl rfl) ?_
  rintro _ _ ⟨b3, rfl, rfl⟩
  refine rp 1 rfl ?_
  refine Sn (Aw (Sq (Sq (Rg ?_))))
  refine Wp (po_faddr rfl (by exact fc_field_45_2_2)) ?_
  refine Wp (po_load rfl (by exact fc_flat_3) (by rfl)) ?_
  refine Wp (po_faddr rfl (by exact fc_field_45_2_2)) ?_
  refine Wp (po_load rfl (by exact fc_flat_3) (by rfl)) ?_
  refine Wp (po_ne rfl rfl) ?_
  refine Sn (Aw ?_)
  refine Rc rfl ?_ ?_
  ·skip
   intro h1
   refine Sq (Rg ?_)
   refine Wp (po_faddr rfl (by exact fc_field_45_2_2)) ?_
   refine Wp (po_load rfl (by exact fc_flat_3) (by rfl)) ?_
   refine Wp (po_faddr rfl (by exact fc_field_45_2_2)) ?_
   refine Wp (po_load rfl (by exact fc_flat_3) (by rfl)) ?_
   refine Wp (po_lt rfl rfl) ?_
   refine rp 1 rfl ?_
   refine Sn (Aw (Rt (Ar ?_)))
   refine at_ret1 rfl (rv_tmp rfl) ⟨_, ⟨by congr 1; refine decide_eq_decide.2 ?_; rw [ltS_iff]; omega, rfl⟩, ?_⟩
   try dsimp only [ca, na]
   exact ent
  ·skip
   intro h1
   refine Sk (Aw (Sq (Sq (Rg ?_))))
   refine Wp (po_faddr rfl (by exact fc_field_45_0_0)) ?_
   refine Wp (po_load rfl (by exact fc_flat_3) (by rfl)) ?_
   refine Wp (po_faddr rfl (by exact fc_field_45_0_0)) ?_
   refine Wp (po_load rfl (by exact fc_flat_3) (by rfl)) ?_
   refine Wp (po_ne rfl rfl) ?_
   refine Sn (Aw ?_)
   refine Rc rfl ?_ ?_
   ·skip
    intro h2
    refine Sq (Rg ?_)
    refine Wp (po_faddr rfl (by exact fc_field_45_0_0)) ?_
    refine Wp (po_load rfl (by exact fc_flat_3) (by rfl)) ?_
    refine Wp (po_faddr rfl (by exact fc_field_45_0_0)) ?_
    refine Wp (po_load rfl (by exact fc_flat_3) (by rfl)) ?_
    refine Wp (po_lt rfl rfl) ?_
    refine rp 1 rfl ?_
    refine Sn (Aw (Rt (Ar ?_)))
    refine at_ret1 rfl (rv_tmp rfl) ⟨_, ⟨by congr 1; refine decide_eq_decide.2 ?_; rw [ltS_iff]; omega, rfl⟩, ?_⟩
    try dsimp only [ca, na]
    exact ent
   ·skip
    intro h2
    refine Sk (Aw (Sq (Rg ?_)))
    refine Wp (po_faddr rfl (by exact fc_field_45_1_1)) ?_
    refine Wp (po_load rfl (by exact fc_flat_3) (by rfl)) ?_
    refine Wp (po_faddr rfl (by exact fc_field_45_1_1)) ?_
    refine Wp (po_load rfl (by exact fc_flat_3) (by rfl)) ?_
    refine Wp (po_lt rfl rfl) ?_
    refine rp 1 rfl ?_
    refine Sn (Aw (Rt ?_))
    refine at_ret1 rfl (rv_tmp rfl) ⟨_, ⟨by congr 1; refine decide_eq_decide.2 ?_; rw [ltS_iff]; omega, rfl⟩, ?_⟩
    try dsimp only [ca, na]
    exact ent
theorem ins_pw {ys : List Seed} {x : Seed} {k : Nat} (h : ys.Pairwise ltS) (hk : k ≤ ys.length) (hlo : ∀ j, (hj : j < ys.length) → j < k → ltS ys[j] x) (hhi : ∀ hj : k < ys.length, ltS x (ys[k]'hj)) : (ys.take k ++ [x] ++ ys.drop k).Pairwise ltS := by
  rw [List.append_assoc, List.pairwise_append, List.pairwise_append]
  have h' := List.pairwise_iff_getElem.1 h
  refine ⟨h.sublist (List.take_sublist k ys), ⟨by simp, h.sublist (List.drop_sublist k ys), fun a ha b hb => ?_⟩, fun a ha b hb => ?_⟩
  · rw [List.mem_singleton] at ha; subst ha
    obtain ⟨j, hj, rfl⟩ := List.getElem_of_mem hb
    rw [List.length_drop] at hj
    rw [List.getElem_drop]
    by_cases e : j = 0
    · subst e; exact hhi (by omega)
    · exact ltS_trans (hhi (by omega)) (h' k (k + j) (by omega) (by omega) (by omega))
  · obtain ⟨i, hi, rfl⟩ := List.getElem_of_mem ha
    rw [List.length_take] at hi
    rw [List.getElem_take]
    rcases List.mem_append.1 hb with hb | hb
    · rw [List.mem_singleton] at hb; subst hb; exact hlo i (by omega) (by omega)
    · obtain ⟨j, hj, rfl⟩ := List.getElem_of_mem hb
      rw [List.length_drop] at hj
      rw [List.getElem_drop]
      exact h' i (k + j) (by omega) (by omega) (by omega)
theorem mem_ins {ys : List Seed} {x s : Seed} {k : Nat} : s ∈ ys.take k ++ [x] ++ ys.drop k ↔ s ∈ ys ∨ s = x := by
  have e : s ∈ ys ↔ s ∈ ys.take k ∨ s ∈ ys.drop k := by rw [← List.mem_append, List.take_append_drop]
  rw [e]
  simp only [List.mem_append, List.mem_singleton]
  constructor
  · rintro ((h | h) | h)
    · exact .inl (.inl h)
    · exact .inr h
    · exact .inl (.inr h)
  · rintro ((h | h) | h)
    · exact .inl (.inl h)
    · exact .inr h
    · exact .inl (.inr h)
theorem mem_snoc {l : List Seed} {s : Seed} {k : Nat} (h : k < l.length) : s ∈ l.take (k + 1) ↔ s ∈ l.take k ∨ s = l[k] := by
  rw [take_snoc l k h, List.mem_append, List.mem_singleton]
theorem sorted_ext : ∀ {xs ys : List Seed}, xs.Pairwise ltS → ys.Pairwise ltS → (∀ s, s ∈ xs ↔ s ∈ ys) → xs = ys
  | [], [], _, _, _ => rfl
  | [], y :: ys, _, _, h => absurd ((h y).2 (List.mem_cons_self ..)) (by simp)
  | x :: xs, [], _, _, h => absurd ((h x).1 (List.mem_cons_self ..)) (by simp)
  | x :: xs, y :: ys, hx, hy, h => by
    rw [List.pairwise_cons] at hx hy
    have hirr : ∀ a : Seed, ¬ ltS a a := fun a => leS_refl a
    have e : x = y := by
      rcases List.mem_cons.1 ((h x).1 (List.mem_cons_self ..)) with e | e
      · exact e
      · rcases List.mem_cons.1 ((h y).2 (List.mem_cons_self ..)) with e2 | e2
        · exact e2.symm
        · exact absurd (ltS_trans (hx.1 y e2) (hy.1 x e)) (hirr x)
    subst e
    congr 1
    refine sorted_ext hx.2 hy.2 fun s => ?_
    constructor
    · intro hs
      rcases List.mem_cons.1 ((h s).1 (List.mem_cons_of_mem _ hs)) with e | e
      · subst e; exact absurd (hx.1 _ hs) (hirr _)
      · exact e
    · intro hs
      rcases List.mem_cons.1 ((h s).2 (List.mem_cons_of_mem _ hs)) with e | e
      · subst e; exact absurd (hy.1 _ hs) (hirr _)
      · exact e
theorem ref_SortSeeds (lv : Value) (l : List Seed) (hl : l.length ≤ 2^20) : Spec PP 37 #[lv] [Sl eS lv l]
    (fun v M => ∃ ys, M = [Sl eS lv l, Sl eS v ys] ∧ ys.Pairwise ltS ∧ ∀ s, s ∈ ys ↔ s ∈ l) := by
  refine spec_of (Go.Proofs.Tryz.func37) rfl rfl rfl (by exact fc_enters_37) ?_
  intro g F
  try dsimp only [ca, na]
  refine Sq (Rg ?_)
  refine rp 1 rfl ?_
  refine Sn (Aw (Sq (Rg ?_)))
  refine rp 1 rfl ?_
  refine Sn (Aw (Sq (Sq (Rg ?_))))
  refine rp 1 rfl ?_
  refine Sn (Aw (Bk ?_))
  refine r_loop (S := Nat × Value × List Seed) (fun ⟨i, ov, ys⟩ => [(3, ov), (4, .int .i64 i)]) [(0, _)] (fun ⟨i, ov, ys⟩ => [Sl eS lv l, Sl eS ov ys, F]) (fun ⟨i, ov, ys⟩ => i ≤ l.length ∧ ys.length ≤ i ∧ ys.Pairwise ltS ∧ ∀ s, s ∈ ys ↔ s ∈ l.take i) (fun ⟨i, ov, ys⟩ => l.length - i) ((0, .slice none 0 0, [])) (And.intro rfl (trivial)) (And.intro rfl (And.intro rfl (trivial))) (⟨by omega, by simp, .nil, fun s => by simp⟩) ent ?_
  rintro ⟨i, ov, ys⟩ ⟨hi, hyl, hpw, hmem⟩
  try dsimp only [ca, na]
  refine Sq (Sq (Rg ?_))
  refine rp 2 rfl ?_
  refine Wp (po_len rfl (by exact fc_slice_32_45_3)) ?_
  refine Wp (po_lt rfl rfl) ?_
  refine Sn (Aw ?_)
  refine Rc rfl ?_ ?_
  ·skip
   intro hlt
   have hil : i < l.length := by omega
   obtain ⟨x, hxe⟩ : ∃ x, l[(i : Int).toNat]'(by omega) = x := ⟨_, rfl⟩
   have hxi : l[i] = x := hxe
   refine Sk (Aw (Sq (Bk (Sq (Rg ?_)))))
   refine rp 1 rfl ?_
   refine Sn (Aw ?_)
   refine r_joink (S := Nat) (fun k => [(5, .int .i64 k)]) [(0, _), (3, _), (4, _)] (fun k => [Sl eS lv l, Sl eS ov ys, F]) (fun k => k ≤ ys.length ∧ (∀ j, (hj : j < ys.length) → j < k → ltS ys[j] x) ∧ ∀ hj : k < ys.length, leS x ys[k]) (And.intro rfl (And.intro rfl (And.intro rfl (trivial)))) ?_ ?_
   ·skip
    refine Bk ?_
    refine r_loop (S := Nat) (fun k => [(5, .int .i64 k)]) [(0, _), (3, _), (4, _)] (fun k => [Sl eS lv l, Sl eS ov ys, F]) (fun k => k ≤ ys.length ∧ ∀ j, (hj : j < ys.length) → j < k → ltS ys[j] x) (fun k => ys.length - k) (0) (And.intro rfl (And.intro rfl (And.intro rfl (trivial)))) (And.intro rfl (trivial)) (⟨by omega, fun j _ h => by omega⟩) ent ?_
    rintro k ⟨hk, hlo⟩
    try dsimp only [ca, na]
    refine Sq (Sq ?_)
    refine r_ord [] _ [(0, 1), (1, 1), (2, 0), (3, 1), (4, 1), (5, 1), (6, 1), (7, 0), (8, 0), (9, 1), (10, 1), (11, 0), (12, 0), (13, 2), (14, 1)] fc_mixed (by kernel_rfl) (fun _ h => h) ?_
    refine Of rfl (po_move rfl) ?_
    refine Of rfl (po_move rfl) ?_
    refine Or rfl (po_len rfl (by exact fc_slice_32_45_3)) ?_
    refine Of rfl (po_lt rfl rfl) ?_
    by_cases hky : (k : Int) < ys.length
    ·skip
     refine o_fr rfl (po_bt (po_move rfl) (decide_eq_true hky)) rfl rfl rfl ?_
     have hkl : k < ys.length := by omega
     refine Of rfl (po_move rfl) ?_
     refine Of rfl (po_move rfl) ?_
     refine Or rfl (po_iaddr rfl rfl (by exact fc_slice_32_45_3) (by first | omega | (simp <;> omega)) (by first | omega | (simp <;> omega))) ?_
     refine Or rfl (ld_eS rfl (List.getElem?_eq_getElem (by first | omega | (simp <;> omega))) (by exact fc_agg_45_3)) ?_
     refine Of rfl (po_move rfl) ?_
     refine Of rfl (po_move rfl) ?_
     refine Or rfl (po_iaddr rfl rfl (by exact fc_slice_32_45_3) (by first | omega | (simp <;> omega)) (by first | omega | (simp <;> omega))) ?_
     refine Or rfl (ld_eS rfl (List.getElem?_eq_getElem (by first | omega | (simp <;> omega))) (by exact fc_agg_45_3)) ?_
     refine o_st rfl (st_call (co_fn rfl rfl) (ref_before (ys[(k : Int).toNat]'(by omega)) (l[(i : Int).toNat]'(by omega))) (by infer_instance) rfl rfl rfl ?_)
     rintro v25 _ ⟨rfl, rfl⟩
     try dsimp only [ca, na]
     refine ⟨fun _ => (by first | exact fun _ h => h | exact ent), ?_⟩
     refine Of rfl (po_pick_t rfl rfl) ?_
     refine o_nil ?_
     refine Aw ?_
     refine Rc rfl ?_ ?_
     ·skip
      intro hb
      refine Sk (Aw (Bk (Rg ?_)))
      refine rp 1 rfl ?_
      refine Wp (po_add' rfl rfl (by omega) (by omega)) ?_
      refine rp 1 rfl ?_
      refine Sn (Bn ?_)
      simp only [Int.toNat_natCast, hxi] at hb
      exact at_again (k + 1) (And.intro rfl (trivial)) (And.intro rfl (And.intro rfl (And.intro rfl (trivial)))) (⟨by omega, fun j hj h => by by_cases e : j = k; (subst e; exact hb); exact hlo j hj (by omega)⟩) (by omega) ent
     ·skip
      intro hb
      refine Ex' (Ax (Ax (Bh ?_)))
      simp only [Int.toNat_natCast, hxi] at hb
      exact at_join (k) (And.intro rfl (trivial)) (And.intro rfl (And.intro rfl (And.intro rfl (trivial)))) (⟨hk, hlo, fun _ => hb⟩) ent
    ·skip
     refine o_fr rfl (po_bf (po_move rfl) (decide_eq_false hky)) rfl rfl rfl ?_
     refine o_no rfl rfl rfl rfl ?_
     refine o_no rfl rfl rfl rfl ?_
     refine o_nor rfl (by first | exact fun _ h => h | exact ent) rfl rfl rfl ?_
     refine o_nor rfl (by first | exact fun _ h => h | exact ent) rfl rfl rfl ?_
     refine o_no rfl rfl rfl rfl ?_
     refine o_no rfl rfl rfl rfl ?_
     refine o_nor rfl (by first | exact fun _ h => h | exact ent) rfl rfl rfl ?_
     refine o_nor rfl (by first | exact fun _ h => h | exact ent) rfl rfl rfl ?_
     refine o_st rfl (st_no rfl rfl rfl ?_)
     refine ⟨fun _ => (by first | exact fun _ h => h | exact ent), ?_⟩
     refine Of rfl (po_pick_f rfl rfl) ?_
     refine o_nil ?_
     refine Aw ?_
     refine r_cond_f rfl rfl ?_
     refine Ex' (Ax (Ax (Bh ?_)))
     exact at_join (k) (And.intro rfl (trivial)) (And.intro rfl (And.intro rfl (And.intro rfl (trivial)))) (⟨hk, hlo, fun hj => absurd hj (by omega)⟩) ent
   ·skip
    rintro k ⟨hk, hlo, hhi⟩
    try dsimp only [ca, na]
    refine Sq (Sq ?_)
    refine r_ord [] _ [(0, 1), (1, 1), (2, 0), (3, 1), (4, 1), (5, 1), (6, 1), (7, 0), (8, 0), (9, 1), (10, 1), (11, 0), (12, 0), (13, 1), (14, 1)] fc_mixed (by kernel_rfl) (fun _ h => h) ?_
    refine Of rfl (po_move rfl) ?_
    refine Of rfl (po_move rfl) ?_
    refine Or rfl (po_len rfl (by exact fc_slice_32_45_3)) ?_
    refine Of rfl (po_lt rfl rfl) ?_
    by_cases hky : (k : Int) < ys.length
    ·skip
     refine o_fr rfl (po_bt (po_move rfl) (decide_eq_true hky)) rfl rfl rfl ?_
     have hkl : k < ys.length := by omega
     refine Of rfl (po_move rfl) ?_
     refine Of rfl (po_move rfl) ?_
     refine Or rfl (po_iaddr rfl rfl (by exact fc_slice_32_45_3) (by first | omega | (simp <;> omega)) (by first | omega | (simp <;> omega))) ?_
     refine Or rfl (ld_eS rfl (List.getElem?_eq_getElem (by first | omega | (simp <;> omega))) (by exact fc_agg_45_3)) ?_
     refine Of rfl (po_move rfl) ?_
     refine Of rfl (po_move rfl) ?_
     refine Or rfl (po_iaddr rfl rfl (by exact fc_slice_32_45_3) (by first | omega | (simp <;> omega)) (by first | omega | (simp <;> omega))) ?_
     refine Or rfl (ld_eS rfl (List.getElem?_eq_getElem (by first | omega | (simp <;> omega))) (by exact fc_agg_45_3)) ?_
     refine Of rfl (po_st3eq rfl rfl (by exact fc_st3_45)) ?_
     refine Of rfl (po_pick_t rfl rfl) ?_
     refine o_nil ?_
     refine Aw ?_
     refine Rc rfl ?_ ?_
     ·skip
      intro heq
      refine Ex' (Ax (Bh (Aw (Rg ?_))))
      refine rp 1 rfl ?_
      refine Wp (po_add' rfl rfl (by omega) (by omega)) ?_
      refine rp 1 rfl ?_
      refine Sn ?_
      have hyx : ys[k] = x := by rw [← hxe]; exact seed_ext heq
      exact at_again ((i + 1, ov, ys)) (And.intro rfl (And.intro rfl (trivial))) (And.intro rfl (trivial)) (⟨by dsimp only; omega, by dsimp only; omega, hpw, fun s => by rw [mem_snoc hil, hxi, hmem s]; exact ⟨.inl, fun h => h.elim id (fun h => by rw [h, ← hyx]; exact (hmem _).1 (List.getElem_mem _))⟩⟩) (by dsimp only; omega) ent
     ·skip
      intro heq
      have hne : ys[k] ≠ x := fun e => heq (by rw [← hxe] at e; simp only [Int.toNat_natCast] at e ⊢; rw [e]; exact ⟨rfl, rfl, rfl⟩)
      refine Sk (Aw ?_)
      refine r_tree [14] _ 16 fc_mixed (by kernel_rfl) (fun _ h => h) ?_
      refine t_fr (i := 1) (by kernel_rfl) rfl (po_move rfl) rfl rfl rfl ?_
      refine t_fr (i := 2) (by kernel_rfl) rfl (po_move rfl) rfl rfl rfl ?_
      refine t_rd (i := 3) (by kernel_rfl) rfl (po_slice_h rfl rfl (by exact fc_slice_32_45_3) (by first | omega | (simp <;> omega)) (by first | omega | (simp <;> omega))) (by first | exact fun _ h => h | exact ent) rfl rfl rfl ?_
      refine t_fr (i := 5) (by kernel_rfl) rfl (po_move rfl) rfl rfl rfl ?_
      refine t_fr (i := 6) (by kernel_rfl) rfl (po_move rfl) rfl rfl rfl ?_
      refine t_rd (i := 7) (by kernel_rfl) rfl (po_iaddr rfl rfl (by exact fc_slice_32_45_3) (by first | omega | (simp <;> omega)) (by first | omega | (simp <;> omega))) (by first | exact fun _ h => h | exact ent) rfl rfl rfl ?_
      refine t_rd (i := 8) (by kernel_rfl) rfl (ld_eS rfl (List.getElem?_eq_getElem (by first | omega | (simp <;> omega))) (by exact fc_agg_45_3)) (by first | exact fun _ h => h | exact ent) rfl rfl rfl ?_
      refine t_fr (i := 11) (by kernel_rfl) rfl (po_move rfl) rfl rfl rfl ?_
      refine t_fr (i := 12) (by kernel_rfl) rfl (po_move rfl) rfl rfl rfl ?_
      refine t_rd (i := 13) (by kernel_rfl) rfl (po_slice_l rfl rfl (by exact fc_slice_32_45_3) (by first | omega | (simp <;> omega)) (by first | omega | (simp <;> omega))) (by first | exact fun _ h => h | exact ent) rfl rfl rfl ?_
      refine t_br2 (i := 0) (j := 9) (by kernel_rfl) ?_ ?_
      ·skip
       refine tb rfl (st_xo (xo_bslice eS [] rfl (by exact fc_slice_32_45_3) (by exact fc_elem_45_3_24) trivial rfl (by decide)) rfl rfl rfl ?_)
       rintro v44 _ rfl
       refine ⟨fun _ => (by first | exact fun _ h => h | exact ent), ?_⟩
       refine t_br2 (i := 4) (j := 9) (by kernel_rfl) ?_ ?_
       ·skip
        refine tb rfl (st_xo (xo_append (m2 := rd_sub (xs := ys) _ _ (by omega) (by omega)) rfl rfl (by exact fc_slice_32_45_3) (by exact fc_slice_32_45_3) (by exact fc_elem_45_3_24) (by simp only [List.length_append, List.length_cons, List.length_nil, List.length_drop, List.length_take]; omega) (by simp only [List.length_append, List.length_cons, List.length_nil, List.length_drop, List.length_take]; omega)) rfl rfl rfl ?_)
        rintro v48 _ rfl
        refine ⟨fun _ => (by first | exact fun _ h => h | exact ent), ?_⟩
        refine t_st (i := 9) (by kernel_rfl) rfl (st_xo (xo_bslice eS [_] rfl (by exact fc_slice_32_45_3) (by exact fc_elem_45_3_24) ⟨rfl, rfl, trivial⟩ rfl (by decide)) rfl rfl rfl ?_)
        rintro v53 _ rfl
        refine ⟨fun _ => (by first | exact fun _ h => h | exact ent), ?_⟩
        refine t_st (i := 10) (by kernel_rfl) rfl (st_xo (xo_append rfl rfl (by exact fc_slice_32_45_3) (by exact fc_slice_32_45_3) (by exact fc_elem_45_3_24) (by first | omega | (simp <;> omega)) (by first | omega | (simp <;> omega))) rfl rfl rfl ?_)
        rintro v54 _ rfl
        refine ⟨fun _ => (by first | exact fun _ h => h | exact ent), ?_⟩
        refine t_st (i := 14) (by kernel_rfl) rfl (st_xo (xo_append (m2 := rd_sub (xs := ys) _ _ (by omega) (by omega)) rfl rfl (by exact fc_slice_32_45_3) (by exact fc_slice_32_45_3) (by exact fc_elem_45_3_24) (by simp only [List.length_append, List.length_cons, List.length_nil, List.length_drop, List.length_take]; omega) (by simp only [List.length_append, List.length_cons, List.length_nil, List.length_drop, List.length_take]; omega)) rfl rfl rfl ?_)
        rintro v58 _ rfl
        refine ⟨fun h => late_no h (by kernel_rfl), ?_⟩
        refine t_fr (i := 15) (by kernel_rfl) rfl (po_assign rfl) rfl rfl rfl ?_
        refine t_nil (by kernel_rfl) ?_
        refine Bn (Aw (Rg ?_))
        refine rp 1 rfl ?_
        refine Wp (po_add' rfl rfl (by omega) (by omega)) ?_
        refine rp 1 rfl ?_
        refine Sn ?_
        rw [show [] ++ List.drop 0 (List.take ((k : Int)).toNat ys) ++ [l[(i : Int).toNat]'(by omega)] ++ List.drop ((k : Int)).toNat (List.take ys.length ys) = ys.take k ++ [x] ++ ys.drop k from by rw [hxe]; simp]
        exact at_again ((i + 1, v58, ys.take k ++ [x] ++ ys.drop k)) (And.intro rfl (And.intro rfl (trivial))) (And.intro rfl (trivial)) (⟨by dsimp only; omega, by simp; omega, ins_pw hpw hk hlo (fun hj => Classical.byContradiction fun h => hne (leS_anti h (hhi hj))), fun s => by rw [mem_snoc hil, hxi, mem_ins, hmem s]⟩) (by dsimp only; omega) ent
       ·skip
        refine tb rfl (st_xo (xo_bslice eS [_] rfl (by exact fc_slice_32_45_3) (by exact fc_elem_45_3_24) ⟨rfl, rfl, trivial⟩ rfl (by decide)) rfl rfl rfl ?_)
        rintro v53 _ rfl
        refine ⟨fun _ => (by first | exact fun _ h => h | exact ent), ?_⟩
        refine t_st (i := 4) (by kernel_rfl) rfl (st_xo (xo_append (m2 := rd_sub (xs := ys) _ _ (by omega) (by omega)) rfl rfl (by exact fc_slice_32_45_3) (by exact fc_slice_32_45_3) (by exact fc_elem_45_3_24) (by simp only [List.length_append, List.length_cons, List.length_nil, List.length_drop, List.length_take]; omega) (by simp only [List.length_append, List.length_cons, List.length_nil, List.length_drop, List.length_take]; omega)) rfl rfl rfl ?_)
        rintro v48 _ rfl
        refine ⟨fun _ => (by first | exact fun _ h => h | exact ent), ?_⟩
        refine t_st (i := 10) (by kernel_rfl) rfl (st_xo (xo_append rfl rfl (by exact fc_slice_32_45_3) (by exact fc_slice_32_45_3) (by exact fc_elem_45_3_24) (by first | omega | (simp <;> omega)) (by first | omega | (simp <;> omega))) rfl rfl rfl ?_)
        rintro v54 _ rfl
        refine ⟨fun _ => (by first | exact fun _ h => h | exact ent), ?_⟩
        refine t_st (i := 14) (by kernel_rfl) rfl (st_xo (xo_append (m2 := rd_sub (xs := ys) _ _ (by omega) (by omega)) rfl rfl (by exact fc_slice_32_45_3) (by exact fc_slice_32_45_3) (by exact fc_elem_45_3_24) (by simp only [List.length_append, List.length_cons, List.length_nil, List.length_drop, List.length_take]; omega) (by simp only [List.length_append, List.length_cons, List.length_nil, List.length_drop, List.length_take]; omega)) rfl rfl rfl ?_)
        rintro v58 _ rfl
        refine ⟨fun h => late_no h (by kernel_rfl), ?_⟩
        refine t_fr (i := 15) (by kernel_rfl) rfl (po_assign rfl) rfl rfl rfl ?_
        refine t_nil (by kernel_rfl) ?_
        refine Bn (Aw (Rg ?_))
        refine rp 1 rfl ?_
        refine Wp (po_add' rfl rfl (by omega) (by omega)) ?_
        refine rp 1 rfl ?_
        refine Sn ?_
        rw [show [] ++ List.drop 0 (List.take ((k : Int)).toNat ys) ++ [l[(i : Int).toNat]'(by omega)] ++ List.drop ((k : Int)).toNat (List.take ys.length ys) = ys.take k ++ [x] ++ ys.drop k from by rw [hxe]; simp]
        exact at_again ((i + 1, v58, ys.take k ++ [x] ++ ys.drop k)) (And.intro rfl (And.intro rfl (trivial))) (And.intro rfl (trivial)) (⟨by dsimp only; omega, by simp; omega, ins_pw hpw hk hlo (fun hj => Classical.byContradiction fun h => hne (leS_anti h (hhi hj))), fun s => by rw [mem_snoc hil, hxi, mem_ins, hmem s]⟩) (by dsimp only; omega) ent
      ·skip
       refine tb rfl (st_xo (xo_bslice eS [_] rfl (by exact fc_slice_32_45_3) (by exact fc_elem_45_3_24) ⟨rfl, rfl, trivial⟩ rfl (by decide)) rfl rfl rfl ?_)
       rintro v53 _ rfl
       refine ⟨fun _ => (by first | exact fun _ h => h | exact ent), ?_⟩
       refine t_st (i := 0) (by kernel_rfl) rfl (st_xo (xo_bslice eS [] rfl (by exact fc_slice_32_45_3) (by exact fc_elem_45_3_24) trivial rfl (by decide)) rfl rfl rfl ?_)
       rintro v44 _ rfl
       refine ⟨fun _ => (by first | exact fun _ h => h | exact ent), ?_⟩
       refine t_st (i := 4) (by kernel_rfl) rfl (st_xo (xo_append (m2 := rd_sub (xs := ys) _ _ (by omega) (by omega)) rfl rfl (by exact fc_slice_32_45_3) (by exact fc_slice_32_45_3) (by exact fc_elem_45_3_24) (by simp only [List.length_append, List.length_cons, List.length_nil, List.length_drop, List.length_take]; omega) (by simp only [List.length_append, List.length_cons, List.length_nil, List.length_drop, List.length_take]; omega)) rfl rfl rfl ?_)
       rintro v48 _ rfl
       refine ⟨fun _ => (by first | exact fun _ h => h | exact ent), ?_⟩
       refine t_st (i := 10) (by kernel_rfl) rfl (st_xo (xo_append rfl rfl (by exact fc_slice_32_45_3) (by exact fc_slice_32_45_3) (by exact fc_elem_45_3_24) (by first | omega | (simp <;> omega)) (by first | omega | (simp <;> omega))) rfl rfl rfl ?_)
       rintro v54 _ rfl
       refine ⟨fun _ => (by first | exact fun _ h => h | exact ent), ?_⟩
       refine t_st (i := 14) (by kernel_rfl) rfl (st_xo (xo_append (m2 := rd_sub (xs := ys) _ _ (by omega) (by omega)) rfl rfl (by exact fc_slice_32_45_3) (by exact fc_slice_32_45_3) (by exact fc_elem_45_3_24) (by simp only [List.length_append, List.length_cons, List.length_nil, List.length_drop, List.length_take]; omega) (by simp only [List.length_append, List.length_cons, List.length_nil, List.length_drop, List.length_take]; omega)) rfl rfl rfl ?_)
       rintro v58 _ rfl
       refine ⟨fun h => late_no h (by kernel_rfl), ?_⟩
       refine t_fr (i := 15) (by kernel_rfl) rfl (po_assign rfl) rfl rfl rfl ?_
       refine t_nil (by kernel_rfl) ?_
       refine Bn (Aw (Rg ?_))
       refine rp 1 rfl ?_
       refine Wp (po_add' rfl rfl (by omega) (by omega)) ?_
       refine rp 1 rfl ?_
       refine Sn ?_
       rw [show [] ++ List.drop 0 (List.take ((k : Int)).toNat ys) ++ [l[(i : Int).toNat]'(by omega)] ++ List.drop ((k : Int)).toNat (List.take ys.length ys) = ys.take k ++ [x] ++ ys.drop k from by rw [hxe]; simp]
       exact at_again ((i + 1, v58, ys.take k ++ [x] ++ ys.drop k)) (And.intro rfl (And.intro rfl (trivial))) (And.intro rfl (trivial)) (⟨by dsimp only; omega, by simp; omega, ins_pw hpw hk hlo (fun hj => Classical.byContradiction fun h => hne (leS_anti h (hhi hj))), fun s => by rw [mem_snoc hil, hxi, mem_ins, hmem s]⟩) (by dsimp only; omega) ent
    ·skip
     refine o_fr rfl (po_bf (po_move rfl) (decide_eq_false hky)) rfl rfl rfl ?_
     refine o_no rfl rfl rfl rfl ?_
     refine o_no rfl rfl rfl rfl ?_
     refine o_nor rfl (by first | exact fun _ h => h | exact ent) rfl rfl rfl ?_
     refine o_nor rfl (by first | exact fun _ h => h | exact ent) rfl rfl rfl ?_
     refine o_no rfl rfl rfl rfl ?_
     refine o_no rfl rfl rfl rfl ?_
     refine o_nor rfl (by first | exact fun _ h => h | exact ent) rfl rfl rfl ?_
     refine o_nor rfl (by first | exact fun _ h => h | exact ent) rfl rfl rfl ?_
     refine o_no rfl rfl rfl rfl ?_
     refine Of rfl (po_pick_f rfl rfl) ?_
     refine o_nil ?_
     refine Aw ?_
     refine r_cond_f rfl rfl ?_
     refine Sk (Aw ?_)
     refine r_tree [14] _ 16 fc_mixed (by kernel_rfl) (fun _ h => h) ?_
     refine t_fr (i := 1) (by kernel_rfl) rfl (po_move rfl) rfl rfl rfl ?_
     refine t_fr (i := 2) (by kernel_rfl) rfl (po_move rfl) rfl rfl rfl ?_
     refine t_rd (i := 3) (by kernel_rfl) rfl (po_slice_h rfl rfl (by exact fc_slice_32_45_3) (by first | omega | (simp <;> omega)) (by first | omega | (simp <;> omega))) (by first | exact fun _ h => h | exact ent) rfl rfl rfl ?_
     refine t_fr (i := 5) (by kernel_rfl) rfl (po_move rfl) rfl rfl rfl ?_
     refine t_fr (i := 6) (by kernel_rfl) rfl (po_move rfl) rfl rfl rfl ?_
     refine t_rd (i := 7) (by kernel_rfl) rfl (po_iaddr rfl rfl (by exact fc_slice_32_45_3) (by first | omega | (simp <;> omega)) (by first | omega | (simp <;> omega))) (by first | exact fun _ h => h | exact ent) rfl rfl rfl ?_
     refine t_rd (i := 8) (by kernel_rfl) rfl (ld_eS rfl (List.getElem?_eq_getElem (by first | omega | (simp <;> omega))) (by exact fc_agg_45_3)) (by first | exact fun _ h => h | exact ent) rfl rfl rfl ?_
     refine t_fr (i := 11) (by kernel_rfl) rfl (po_move rfl) rfl rfl rfl ?_
     refine t_fr (i := 12) (by kernel_rfl) rfl (po_move rfl) rfl rfl rfl ?_
     refine t_rd (i := 13) (by kernel_rfl) rfl (po_slice_l rfl rfl (by exact fc_slice_32_45_3) (by first | omega | (simp <;> omega)) (by first | omega | (simp <;> omega))) (by first | exact fun _ h => h | exact ent) rfl rfl rfl ?_
     refine t_br2 (i := 0) (j := 9) (by kernel_rfl) ?_ ?_
     ·skip
      refine tb rfl (st_xo (xo_bslice eS [] rfl (by exact fc_slice_32_45_3) (by exact fc_elem_45_3_24) trivial rfl (by decide)) rfl rfl rfl ?_)
      rintro v44 _ rfl
      refine ⟨fun _ => (by first | exact fun _ h => h | exact ent), ?_⟩
      refine t_br2 (i := 4) (j := 9) (by kernel_rfl) ?_ ?_
      ·skip
       refine tb rfl (st_xo (xo_append (m2 := rd_sub (xs := ys) _ _ (by omega) (by omega)) rfl rfl (by exact fc_slice_32_45_3) (by exact fc_slice_32_45_3) (by exact fc_elem_45_3_24) (by simp only [List.length_append, List.length_cons, List.length_nil, List.length_drop, List.length_take]; omega) (by simp only [List.length_append, List.length_cons, List.length_nil, List.length_drop, List.length_take]; omega)) rfl rfl rfl ?_)
       rintro v48 _ rfl
       refine ⟨fun _ => (by first | exact fun _ h => h | exact ent), ?_⟩
       refine t_st (i := 9) (by kernel_rfl) rfl (st_xo (xo_bslice eS [_] rfl (by exact fc_slice_32_45_3) (by exact fc_elem_45_3_24) ⟨rfl, rfl, trivial⟩ rfl (by decide)) rfl rfl rfl ?_)
       rintro v53 _ rfl
       refine ⟨fun _ => (by first | exact fun _ h => h | exact ent), ?_⟩
       refine t_st (i := 10) (by kernel_rfl) rfl (st_xo (xo_append rfl rfl (by exact fc_slice_32_45_3) (by exact fc_slice_32_45_3) (by exact fc_elem_45_3_24) (by first | omega | (simp <;> omega)) (by first | omega | (simp <;> omega))) rfl rfl rfl ?_)
       rintro v54 _ rfl
       refine ⟨fun _ => (by first | exact fun _ h => h | exact ent), ?_⟩
       refine t_st (i := 14) (by kernel_rfl) rfl (st_xo (xo_append (m2 := rd_sub (xs := ys) _ _ (by omega) (by omega)) rfl rfl (by exact fc_slice_32_45_3) (by exact fc_slice_32_45_3) (by exact fc_elem_45_3_24) (by simp only [List.length_append, List.length_cons, List.length_nil, List.length_drop, List.length_take]; omega) (by simp only [List.length_append, List.length_cons, List.length_nil, List.length_drop, List.length_take]; omega)) rfl rfl rfl ?_)
       rintro v58 _ rfl
       refine ⟨fun h => late_no h (by kernel_rfl), ?_⟩
       refine t_fr (i := 15) (by kernel_rfl) rfl (po_assign rfl) rfl rfl rfl ?_
       refine t_nil (by kernel_rfl) ?_
       refine Bn (Aw (Rg ?_))
       refine rp 1 rfl ?_
       refine Wp (po_add' rfl rfl (by omega) (by omega)) ?_
       refine rp 1 rfl ?_
       refine Sn ?_
       rw [show [] ++ List.drop 0 (List.take ((k : Int)).toNat ys) ++ [l[(i : Int).toNat]'(by omega)] ++ List.drop ((k : Int)).toNat (List.take ys.length ys) = ys.take k ++ [x] ++ ys.drop k from by rw [hxe]; simp]
       exact at_again ((i + 1, v58, ys.take k ++ [x] ++ ys.drop k)) (And.intro rfl (And.intro rfl (trivial))) (And.intro rfl (trivial)) (⟨by dsimp only; omega, by simp; omega, ins_pw hpw hk hlo (fun hj => absurd hj (by omega)), fun s => by rw [mem_snoc hil, hxi, mem_ins, hmem s]⟩) (by dsimp only; omega) ent
      ·skip
       refine tb rfl (st_xo (xo_bslice eS [_] rfl (by exact fc_slice_32_45_3) (by exact fc_elem_45_3_24) ⟨rfl, rfl, trivial⟩ rfl (by decide)) rfl rfl rfl ?_)
       rintro v53 _ rfl
       refine ⟨fun _ => (by first | exact fun _ h => h | exact ent), ?_⟩
       refine t_st (i := 4) (by kernel_rfl) rfl (st_xo (xo_append (m2 := rd_sub (xs := ys) _ _ (by omega) (by omega)) rfl rfl (by exact fc_slice_32_45_3) (by exact fc_slice_32_45_3) (by exact fc_elem_45_3_24) (by simp only [List.length_append, List.length_cons, List.length_nil, List.length_drop, List.length_take]; omega) (by simp only [List.length_append, List.length_cons, List.length_nil, List.length_drop, List.length_take]; omega)) rfl rfl rfl ?_)
       rintro v48 _ rfl
       refine ⟨fun _ => (by first | exact fun _ h => h | exact ent), ?_⟩
       refine t_st (i := 10) (by kernel_rfl) rfl (st_xo (xo_append rfl rfl (by exact fc_slice_32_45_3) (by exact fc_slice_32_45_3) (by exact fc_elem_45_3_24) (by first | omega | (simp <;> omega)) (by first | omega | (simp <;> omega))) rfl rfl rfl ?_)
       rintro v54 _ rfl
       refine ⟨fun _ => (by first | exact fun _ h => h | exact ent), ?_⟩
       refine t_st (i := 14) (by kernel_rfl) rfl (st_xo (xo_append (m2 := rd_sub (xs := ys) _ _ (by omega) (by omega)) rfl rfl (by exact fc_slice_32_45_3) (by exact fc_slice_32_45_3) (by exact fc_elem_45_3_24) (by simp only [List.length_append, List.length_cons, List.length_nil, List.length_drop, List.length_take]; omega) (by simp only [List.length_append, List.length_cons, List.length_nil, List.length_drop, List.length_take]; omega)) rfl rfl rfl ?_)
       rintro v58 _ rfl
       refine ⟨fun h => late_no h (by kernel_rfl), ?_⟩
       refine t_fr (i := 15) (by kernel_rfl) rfl (po_assign rfl) rfl rfl rfl ?_
       refine t_nil (by kernel_rfl) ?_
       refine Bn (Aw (Rg ?_))
       refine rp 1 rfl ?_
       refine Wp (po_add' rfl rfl (by omega) (by omega)) ?_
       refine rp 1 rfl ?_
       refine Sn ?_
       rw [show [] ++ List.drop 0 (List.take ((k : Int)).toNat ys) ++ [l[(i : Int).toNat]'(by omega)] ++ List.drop ((k : Int)).toNat (List.take ys.length ys) = ys.take k ++ [x] ++ ys.drop k from by rw [hxe]; simp]
       exact at_again ((i + 1, v58, ys.take k ++ [x] ++ ys.drop k)) (And.intro rfl (And.intro rfl (trivial))) (And.intro rfl (trivial)) (⟨by dsimp only; omega, by simp; omega, ins_pw hpw hk hlo (fun hj => absurd hj (by omega)), fun s => by rw [mem_snoc hil, hxi, mem_ins, hmem s]⟩) (by dsimp only; omega) ent
     ·skip
      refine tb rfl (st_xo (xo_bslice eS [_] rfl (by exact fc_slice_32_45_3) (by exact fc_elem_45_3_24) ⟨rfl, rfl, trivial⟩ rfl (by decide)) rfl rfl rfl ?_)
      rintro v53 _ rfl
      refine ⟨fun _ => (by first | exact fun _ h => h | exact ent), ?_⟩
      refine t_st (i := 0) (by kernel_rfl) rfl (st_xo (xo_bslice eS [] rfl (by exact fc_slice_32_45_3) (by exact fc_elem_45_3_24) trivial rfl (by decide)) rfl rfl rfl ?_)
      rintro v44 _ rfl
      refine ⟨fun _ => (by first | exact fun _ h => h | exact ent), ?_⟩
      refine t_st (i := 4) (by kernel_rfl) rfl (st_xo (xo_append (m2 := rd_sub (xs := ys) _ _ (by omega) (by omega)) rfl rfl (by exact fc_slice_32_45_3) (by exact fc_slice_32_45_3) (by exact fc_elem_45_3_24) (by simp only [List.length_append, List.length_cons, List.length_nil, List.length_drop, List.length_take]; omega) (by simp only [List.length_append, List.length_cons, List.length_nil, List.length_drop, List.length_take]; omega)) rfl rfl rfl ?_)
      rintro v48 _ rfl
      refine ⟨fun _ => (by first | exact fun _ h => h | exact ent), ?_⟩
      refine t_st (i := 10) (by kernel_rfl) rfl (st_xo (xo_append rfl rfl (by exact fc_slice_32_45_3) (by exact fc_slice_32_45_3) (by exact fc_elem_45_3_24) (by first | omega | (simp <;> omega)) (by first | omega | (simp <;> omega))) rfl rfl rfl ?_)
      rintro v54 _ rfl
      refine ⟨fun _ => (by first | exact fun _ h => h | exact ent), ?_⟩
      refine t_st (i := 14) (by kernel_rfl) rfl (st_xo (xo_append (m2 := rd_sub (xs := ys) _ _ (by omega) (by omega)) rfl rfl (by exact fc_slice_32_45_3) (by exact fc_slice_32_45_3) (by exact fc_elem_45_3_24) (by simp only [List.length_append, List.length_cons, List.length_nil, List.length_drop, List.length_take]; omega) (by simp only [List.length_append, List.length_cons, List.length_nil, List.length_drop, List.length_take]; omega)) rfl rfl rfl ?_)
      rintro v58 _ rfl
      refine ⟨fun h => late_no h (by kernel_rfl), ?_⟩
      refine t_fr (i := 15) (by kernel_rfl) rfl (po_assign rfl) rfl rfl rfl ?_
      refine t_nil (by kernel_rfl) ?_
      refine Bn (Aw (Rg ?_))
      refine rp 1 rfl ?_
      refine Wp (po_add' rfl rfl (by omega) (by omega)) ?_
      refine rp 1 rfl ?_
      refine Sn ?_
      rw [show [] ++ List.drop 0 (List.take ((k : Int)).toNat ys) ++ [l[(i : Int).toNat]'(by omega)] ++ List.drop ((k : Int)).toNat (List.take ys.length ys) = ys.take k ++ [x] ++ ys.drop k from by rw [hxe]; simp]
      exact at_again ((i + 1, v58, ys.take k ++ [x] ++ ys.drop k)) (And.intro rfl (And.intro rfl (trivial))) (And.intro rfl (trivial)) (⟨by dsimp only; omega, by simp; omega, ins_pw hpw hk hlo (fun hj => absurd hj (by omega)), fun s => by rw [mem_snoc hil, hxi, mem_ins, hmem s]⟩) (by dsimp only; omega) ent
  ·skip
   intro hlt
   refine Ex' (Ax (Ax (Bh (Aw (Sq (Rg ?_))))))
   refine rp 2 rfl ?_
   refine Sn (Aw (Rt ?_))
   have e1 : ∀ s, s ∈ ys ↔ s ∈ l := fun s => by rw [hmem s, List.take_of_length_le (by omega)]
   refine at_ret1 rfl (rv_tmp rfl) ⟨_, ⟨ys, rfl, hpw, e1⟩, ?_⟩
   try dsimp only [ca, na]
   exact ent
end Hd
end
