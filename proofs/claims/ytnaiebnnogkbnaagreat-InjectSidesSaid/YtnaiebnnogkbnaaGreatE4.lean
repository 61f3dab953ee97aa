/- Contracts of functions of the program, and the laws of memory that they are proved with: part 4. -/
import Derived.Below
import Derived.Test.YtnaiebnnogkbnaaGreatE3
set_option linter.unusedVariables false
set_option linter.unusedSimpArgs false
section
namespace Hd
/-! ## within a sector: what waits, what is known -/
def Why (w h : Int) (C : List Int) (t : Int) (kv : List (Int × Int)) (c k : Int) : Prop := (c = t ∧ k = 0) ∨ ∃ m km, kv.lookup m = some km ∧ Adj w h c m ∧ k = km + gAt C m
def unk (kv : List (Int × Int)) (n : Nat) : Nat := (List.range n).countP fun (i : Nat) => (kv.lookup (i : Int)).isNone
theorem lookup_snoc {kv : List (Int × Int)} {c d x : Int} (hn : kv.lookup c = none) : (kv ++ [(c, d)]).lookup x = if x = c then some d else kv.lookup x := by
  rw [List.lookup_append]
  by_cases e : x = c
  · subst e; simp [hn]
  · have : (x == c) = false := by simpa using e
    simp [List.lookup, this, e]
theorem countP_one (p q : Nat → Bool) (m : Nat) (hq : q m = true) (hp : p m = false) (hpq : ∀ x, x ≠ m → p x = q x) : ∀ n, m < n → (List.range n).countP p + 1 = (List.range n).countP q := by
  intro n
  induction n with
  | zero => intro h; omega
  | succ n ih =>
    intro h
    rw [List.range_succ, List.countP_append, List.countP_append]
    by_cases e : m = n
    · subst e
      have : (List.range m).countP p = (List.range m).countP q := by
        apply List.countP_congr
        intro x hx
        have := List.mem_range.1 hx
        rw [hpq x (by omega)]
      rw [this]
      simp [hq, hp]
    · have := ih (by omega)
      have h2 : [n].countP p = [n].countP q := by simp [hpq n (fun x => e x.symm)]
      rw [h2]; omega
theorem unk_snoc {kv : List (Int × Int)} {c d : Int} {n : Nat} (hn : kv.lookup c = none) (h0 : 0 ≤ c) (h1 : c < n) : unk (kv ++ [(c, d)]) n + 1 = unk kv n := by
  unfold unk
  refine countP_one _ _ c.toNat ?_ ?_ ?_ n (by omega)
  · rw [Int.toNat_of_nonneg h0, hn]; rfl
  · rw [Int.toNat_of_nonneg h0, lookup_snoc hn, if_pos rfl]; rfl
  · intro x hx
    rw [lookup_snoc hn, if_neg (by omega)]
theorem unk_le (kv : List (Int × Int)) (n : Nat) : unk kv n ≤ n := Nat.le_trans List.countP_le_length (by simp)

structure Dij (w h : Int) (C : List Int) (t : Int) (kv : List (Int × Int)) (hp : List Ent) (top cur : Int) (ks : Int) : Prop where
  kn : ∀ c k, kv.lookup c = some k → InS w h C (sectorN w h t) c ∧ 0 ≤ k ∧ k ≤ top ∧ Why w h C t kv c k
  wt : ∀ e, e ∈ hp → InS w h C (sectorN w h t) e.item ∧ top ≤ e.key ∧ e.key ≤ 255 * kv.length ∧ Why w h C t kv e.item e.key
  tp : 0 ≤ top ∧ top ≤ 255 * kv.length
  st : kv.lookup t = some 0 ∨ (⟨0, t⟩ ∈ hp ∧ kv.lookup t = none)
  rel : ∀ m km s n, kv.lookup m = some km → (0 ≤ s ∧ s < 4) → stepN w h m s = n → InS w h C (sectorN w h t) n → (m ≠ cur ∨ s < ks) → (∃ k, kv.lookup n = some k ∧ k ≤ km + gAt C m) ∨ ⟨km + gAt C m, n⟩ ∈ hp
  cnt : kv.length + unk kv C.length = C.length
  hl : (hp.length : Int) + 4 * (unk kv C.length : Int) + 4 - ks ≤ 4 * C.length + 1
section
variable {w h : Int} {C : List Int} {t : Int} {kv : List (Int × Int)} {hp : List Ent} {top cur ks : Int}
theorem Dij.start (ht : InS w h C (sectorN w h t) t) : Dij w h C t [] [⟨0, t⟩] 0 t 4 := by
  refine ⟨fun c k hk => (by cases hk), fun e he => ?_, ⟨by omega, by simp⟩, .inr ⟨by simp, rfl⟩, fun m km s n hk => (by cases hk), ?_, ?_⟩
  · rw [List.mem_singleton] at he
    subst he
    exact ⟨ht, Int.le_refl _, by simp, .inl ⟨rfl, rfl⟩⟩
  · unfold unk; simp
  · have := unk_le ([] : List (Int × Int)) C.length
    simp only [List.length_singleton]; omega
theorem Dij.old {e : Ent} {hp' : List Ent} (s : Dij w h C t kv hp top cur 4) (hpm : hp.Perm (e :: hp')) (hk : (kv.lookup e.item).isSome = true) : Dij w h C t kv hp' top cur 4 := by
  have hm : ∀ x, x ∈ hp ↔ x = e ∨ x ∈ hp' := fun x => by rw [hpm.mem_iff, List.mem_cons]
  obtain ⟨k, hk⟩ := Option.isSome_iff_exists.1 hk
  have hke := (s.kn _ _ hk).2.2.1
  have he := s.wt e ((hm e).2 (.inl rfl))
  refine ⟨s.kn, fun x hx => s.wt x ((hm x).2 (.inr hx)), s.tp, ?_, fun m km sd n h1 h2 h3 h4 h5 => ?_, s.cnt, ?_⟩
  · rcases s.st with a | ⟨a, a2⟩
    · exact .inl a
    · rcases (hm _).1 a with b | b
      · rw [← b] at hk; rw [hk] at a2; cases a2
      · exact .inr ⟨b, a2⟩
  · rcases s.rel m km sd n h1 h2 h3 h4 h5 with a | a
    · exact .inl a
    · rcases (hm _).1 a with b | b
      · left; rw [← b] at hk he; exact ⟨k, hk, by have := he.2.1; dsimp only at this; omega⟩
      · exact .inr b
  · have := s.hl
    have := hpm.length_eq
    simp only [List.length_cons] at this; omega
theorem Dij.new {e : Ent} {hp' : List Ent} (s : Dij w h C t kv hp top cur 4) (hpm : hp.Perm (e :: hp')) (hmin : ∀ x, x ∈ hp → e.key ≤ x.key) (hk : kv.lookup e.item = none) (hlen : (C.length : Int) = w * h) : Dij w h C t (kv ++ [(e.item, e.key)]) hp' e.key e.item 0 := by
  have hm : ∀ x, x ∈ hp ↔ x = e ∨ x ∈ hp' := fun x => by rw [hpm.mem_iff, List.mem_cons]
  have he := s.wt e ((hm e).2 (.inl rfl))
  have hlk : ∀ x, (kv ++ [(e.item, e.key)]).lookup x = if x = e.item then some e.key else kv.lookup x := fun x => lookup_snoc hk
  have hln : (kv ++ [(e.item, e.key)]).length = kv.length + 1 := by simp
  have hold : ∀ c k, kv.lookup c = some k → (kv ++ [(e.item, e.key)]).lookup c = some k := fun c k h1 => by
    rw [hlk, if_neg (fun x => by rw [x, hk] at h1; cases h1)]; exact h1
  have hwhy : ∀ c k, Why w h C t kv c k → Why w h C t (kv ++ [(e.item, e.key)]) c k := fun c k hw => by
    rcases hw with a | ⟨m, km, h1, h2, h3⟩
    · exact .inl a
    · exact .inr ⟨m, km, hold m km h1, h2, h3⟩
  have hu := unk_snoc (d := e.key) hk he.1.1.1 he.1.1.2.1
  have hs := s.tp
  refine ⟨fun c k h1 => ?_, fun x hx => ?_, ⟨by omega, by rw [hln]; omega⟩, ?_, fun m km sd n h1 h2 h3 h4 h5 => ?_, by rw [hln]; have := s.cnt; omega, ?_⟩
  · rw [hlk] at h1
    by_cases ec : c = e.item
    · rw [if_pos ec] at h1
      cases h1; subst ec
      exact ⟨he.1, by omega, Int.le_refl _, hwhy _ _ he.2.2.2⟩
    · rw [if_neg ec] at h1
      have := s.kn c k h1
      exact ⟨this.1, this.2.1, by omega, hwhy _ _ this.2.2.2⟩
  · have h1 := s.wt x ((hm x).2 (.inr hx))
    exact ⟨h1.1, hmin x ((hm x).2 (.inr hx)), by rw [hln]; omega, hwhy _ _ h1.2.2.2⟩
  · rcases s.st with a | ⟨a, a2⟩
    · exact .inl (hold _ _ a)
    · by_cases et : t = e.item
      · left
        have h0 := hmin _ a
        dsimp only at h0
        rw [hlk, if_pos et, show e.key = 0 by omega]
      · rcases (hm _).1 a with b | b
        · exact absurd (congrArg Ent.item b) et
        · exact .inr ⟨b, by rw [hlk, if_neg et]; exact a2⟩
  · rcases h5 with h5 | h5
    · rw [hlk, if_neg h5] at h1
      by_cases hmc : m ≠ cur ∨ sd < 4
      · rcases s.rel m km sd n h1 h2 h3 h4 hmc with ⟨k, a, b⟩ | a
        · exact .inl ⟨k, hold _ _ a, b⟩
        · rcases (hm _).1 a with b | b
          · left
            rw [← b]
            dsimp only
            rw [lookup_snoc (by rw [← b] at hk; exact hk), if_pos rfl]
            exact ⟨_, rfl, Int.le_refl _⟩
          · exact .inr b
      · omega
    · omega
  · have := s.hl
    have := hpm.length_eq
    simp only [List.length_cons] at this; omega
theorem Dij.skip {top : Int} (s : Dij w h C t kv hp top cur ks) (hn : ¬ InS w h C (sectorN w h t) (stepN w h cur ks)) : Dij w h C t kv hp top cur (ks + 1) := by
  refine ⟨s.kn, s.wt, s.tp, s.st, fun m km sd n h1 h2 h3 h4 h5 => ?_, s.cnt, by have := s.hl; omega⟩
  by_cases e : m = cur ∧ sd = ks
  · obtain ⟨rfl, rfl⟩ := e
    rw [h3] at hn; exact absurd h4 hn
  · exact s.rel m km sd n h1 h2 h3 h4 (by omega)
theorem Dij.push {hp' : List Ent} {km : Int} (hC : ∀ c, Opn C c → 1 ≤ gAt C c ∧ gAt C c ≤ 255) (s : Dij w h C t kv hp top cur ks) (hk0 : 0 ≤ ks ∧ ks < 4) (hk : kv.lookup cur = some km) (htop : top = km) (hb : km ≤ 255 * ((kv.length : Int) - 1)) (hn : InS w h C (sectorN w h t) (stepN w h cur ks)) (hpm : hp'.Perm (⟨km + gAt C cur, stepN w h cur ks⟩ :: hp)) : Dij w h C t kv hp' top cur (ks + 1) := by
  have hm : ∀ x, x ∈ hp' ↔ x = ⟨km + gAt C cur, stepN w h cur ks⟩ ∨ x ∈ hp := fun x => by rw [hpm.mem_iff, List.mem_cons]
  have hcur := s.kn _ _ hk
  have hcc := hC cur hcur.1.1
  refine ⟨s.kn, fun x hx => ?_, s.tp, ?_, fun m km' sd n h1 h2 h3 h4 h5 => ?_, s.cnt, ?_⟩
  · rcases (hm x).1 hx with e | e
    · subst e
      refine ⟨hn, by dsimp only; omega, by dsimp only; omega, .inr ⟨cur, km, hk, adj_symm hn.1.1 ⟨ks, hk0, rfl⟩, rfl⟩⟩
    · exact s.wt x e
  · rcases s.st with a | ⟨a, a2⟩
    · exact .inl a
    · exact .inr ⟨(hm _).2 (.inr a), a2⟩
  · by_cases e : m = cur ∧ sd = ks
    · obtain ⟨rfl, rfl⟩ := e
      rw [hk] at h1; cases h1
      right; rw [← h3]; exact (hm _).2 (.inl rfl)
    · rcases s.rel m km' sd n h1 h2 h3 h4 (by omega) with a | a
      · exact .inl a
      · exact .inr ((hm _).2 (.inr a))
  · have := s.hl
    have := hpm.length_eq
    simp only [List.length_cons] at this; omega
/-- what is known at the end -/
def kvF (kv : List (Int × Int)) (c : Int) : Int := (kv.lookup c).getD INF
theorem Dij.done (s : Dij w h C t kv [] top cur 4) (hC : ∀ c, Opn C c → 1 ≤ gAt C c) (hb : C.length ≤ 2^30) : IsD w h C (InS w h C (sectorN w h t)) (fun c k => c = t ∧ k = 0) (kvF kv) ∧ ∀ c k, kv.lookup c = some k → 0 ≤ k ∧ k < INF ∧ k ≤ 255 * C.length := by
  have hI : INF = 1099511627776 := rfl
  have hv : ∀ c k, kv.lookup c = some k → kvF kv c = k := fun c k e => by unfold kvF; rw [e]; rfl
  have hc := s.cnt
  have htp := s.tp
  have hr : ∀ c k, kv.lookup c = some k → 0 ≤ k ∧ k < INF ∧ k ≤ 255 * C.length := fun c k e => by have := s.kn c k e; omega
  refine ⟨⟨fun c hn => ?_, fun c => ?_, fun c k hs => ?_, fun c m hci hmi ⟨sd, hsd, e⟩ hl => ?_, fun c => ?_⟩, hr⟩
  · cases e : kv.lookup c with
    | none => unfold kvF; rw [e]; rfl
    | some k => exact absurd (s.kn c k e).1 hn
  · cases e : kv.lookup c with
    | none => left; unfold kvF; rw [e]; rfl
    | some k => right; rw [hv c k e]; exact ⟨(hr c k e).1, (hr c k e).2.1⟩
  · obtain ⟨rfl, rfl⟩ := hs
    rcases s.st with a | ⟨a, _⟩
    · rw [hv _ _ a]; exact Int.le_refl _
    · cases a
  · cases em : kv.lookup m with
    | none => rw [kvF, em] at hl; exact absurd hl (by simp)
    | some km =>
      rw [hv m km em]
      have hcm := adj_symm hmi.1.1 ⟨sd, hsd, e⟩
      obtain ⟨sd', hsd', e'⟩ := hcm
      rcases s.rel m km sd' c em hsd' e' hci (by omega) with ⟨k, a, b⟩ | a
      · rw [hv c k a]; exact b
      · cases a
  · cases e : kv.lookup c with
    | none => left; unfold kvF; rw [e]; rfl
    | some k =>
      rw [hv c k e]
      rcases (s.kn c k e).2.2.2 with a | ⟨m, km, h1, h2, h3⟩
      · exact .inr (.inl a)
      · exact .inr (.inr ⟨m, (s.kn m km h1).1, h2, by rw [hv m km h1]; exact (hr m km h1).2.1, by rw [hv m km h1]; exact h3⟩)
end
end Hd
end
section
namespace Hd
set_option maxRecDepth 100000
open Go

abbrev FinderS.lF (f : FinderS) (kept : Value) (F : HP) : List HP := Blk f.b 98 [f.m.p, f.m.g.p, kept, .int .u64 f.count] :: f.m.lF F
theorem cost_opn {g : GridS} (ok : GridOk g) {c : Int} (hc : IsC g.w g.h c) : costN g.c c = gAt g.c c := by
  have := ok.len
  unfold costN
  rw [if_pos ⟨hc.2.1, by have := hc.2.2; omega⟩]
theorem ins_iff {g : GridS} (ok : GridOk g) {t n : Int} : (0 ≤ n ∧ IsC g.w g.h n) ∧ sectorN g.w g.h n = sectorN g.w g.h t ∧ costN g.c n ≠ 255 ↔ InS g.w g.h g.c (sectorN g.w g.h t) n := by
  have := ok.len
  constructor
  · rintro ⟨⟨h1, h2⟩, h3, h4⟩
    rw [cost_opn ok h2] at h4
    exact ⟨⟨h1, by omega, h4⟩, h2, h3⟩
  · rintro ⟨h1, h2, h3⟩
    exact ⟨⟨h1.1, h2⟩, h3, by rw [cost_opn ok h2]; exact h1.2.2⟩
/-- what is popped next -/
structure Nxt (g : GridS) (t : Int) (o : Bool) (e : Ent) (l : List Ent) (kv : List (Int × Int)) (top cur : Int) : Prop where
  hp : HpL l
  ok : o = true → ∃ hp, Dij g.w g.h g.c t kv hp top cur 4 ∧ hp.Perm (e :: l) ∧ ∀ x, x ∈ hp → e.key ≤ x.key
  no : o = false → l = [] ∧ Dij g.w g.h g.c t kv [] top cur 4
def muW (kv : List (Int × Int)) (n : Nat) (o : Bool) (l : List Ent) : Nat := 5 * unk kv n + l.length + (if o = true then 1 else 0)
theorem muW_t (kv : List (Int × Int)) (n : Nat) {o : Bool} (l : List Ent) (h : o = true) : muW kv n o l = 5 * unk kv n + l.length + 1 := by unfold muW; rw [if_pos h]
theorem muW_f (kv : List (Int × Int)) (n : Nat) {o : Bool} (l : List Ent) (h : o = false) : muW kv n o l = 5 * unk kv n + l.length := by subst h; rfl
theorem leE_key {a b : Ent} (h : leE a b) : a.key ≤ b.key := by unfold leE lessE at h; omega
theorem route_within (f : FinderS) (kept : Value) (ok : GridOk f.m.g) (t : Int) (ht : IsC f.m.g.w f.m.g.h t) : Spec PP 94 #[f.p, .int .i64 t] (f.l kept)
    (fun v M => ∃ r kv, v = .map (some r) ∧ M = f.l kept ++ [MpH r kv] ∧ (¬ Opn f.m.g.c t → kv = []) ∧ (Opn f.m.g.c t → IsD f.m.g.w f.m.g.h f.m.g.c (InS f.m.g.w f.m.g.h f.m.g.c (sectorN f.m.g.w f.m.g.h t)) (fun c k => c = t ∧ k = 0) (kvF kv)) ∧ ∀ c k, kv.lookup c = some k → 0 ≤ k ∧ k < INF ∧ k ≤ 255 * f.m.g.c.length) := by
  have hcl := ok.len
  have hb := may_mul ok.may
  have hC : ∀ c, Opn f.m.g.c c → 1 ≤ gAt f.m.g.c c ∧ gAt f.m.g.c c ≤ 255 := fun c hc => by
    have hl : c.toNat < f.m.g.c.length := by have := hc.1; have := hc.2.1; omega
    rw [gAt_get hl]; exact ok.bt _ (List.getElem_mem hl)
  refine spec_of (Go.Proofs.Tryz.func94) rfl rfl rfl (by exact fc_enters_94) ?_
  intro g F
  try dsimp only [List.cons_append, List.nil_append, GridS.l, GridS.p, MeshS.l, MeshS.lF, MeshS.p, FinderS.l, FinderS.p, heapL, heapP, heapLF, FinderS.lF]
  refine r_seq ?_
  refine r_reg ?_
  refine ws (st_po (po_assign rfl) rfl rfl rfl ?_)
  refine s_nil ?_
  refine at_then_wp ?_
  refine r_seq ?_
  refine r_reg ?_
  refine ws (st_po (po_move rfl) rfl rfl rfl ?_)
  refine ws (st_po (po_nil rfl) rfl rfl rfl ?_)
  refine ws (st_po (po_faddr rfl (by exact fc_field_98_1_1)) rfl rfl rfl ?_)
  refine ws (st_po (po_load rfl (by exact fc_flat_27) (by rfl)) rfl rfl rfl ?_)
  refine ws (st_call (co_fn rfl rfl) (grid_Size f.m.g) (by infer_instance) rfl rfl rfl ?_)
  rintro v21 _ ⟨rfl, rfl⟩
  try dsimp only [List.cons_append, List.nil_append, GridS.l, GridS.p, MeshS.l, MeshS.lF, MeshS.p, FinderS.l, FinderS.p, heapL, heapP, heapLF, FinderS.lF]
  refine ws (st_po (po_move rfl) rfl rfl rfl ?_)
  refine ws (st_po (po_extract rfl rfl) rfl rfl rfl ?_)
  refine ws (st_po (po_extract rfl rfl) rfl rfl rfl ?_)
  refine ws (st_po (po_assign rfl) rfl rfl rfl ?_)
  refine ws (st_po (po_assign rfl) rfl rfl rfl ?_)
  refine s_nil ?_
  refine at_then_wp ?_
  refine r_seq ?_
  refine r_reg ?_
  refine ws (st_xo (xo_makemap) rfl rfl rfl ?_)
  rintro _ _ ⟨r24, rfl, rfl⟩
  refine ws (st_po (po_assign rfl) rfl rfl rfl ?_)
  refine s_nil ?_
  refine at_then_wp ?_
  refine r_seq ?_
  refine r_seq ?_
  refine r_reg ?_
  refine ws (st_po (po_move rfl) rfl rfl rfl ?_)
  refine ws (st_po (po_nil rfl) rfl rfl rfl ?_)
  refine ws (st_po (po_faddr rfl (by exact fc_field_98_1_1)) rfl rfl rfl ?_)
  refine ws (st_po (po_load rfl (by exact fc_flat_27) (by rfl)) rfl rfl rfl ?_)
  refine ws (st_po (po_move rfl) rfl rfl rfl ?_)
  refine ws (st_call (co_fn rfl rfl) (grid_Cost f.m.g t ok.bytes) (by infer_instance) rfl rfl rfl ?_)
  rintro v30 _ ⟨rfl, rfl⟩
  try dsimp only [List.cons_append, List.nil_append, GridS.l, GridS.p, MeshS.l, MeshS.lF, MeshS.p, FinderS.l, FinderS.p, heapL, heapP, heapLF, FinderS.lF]
  refine ws (st_po (po_eq rfl rfl) rfl rfl rfl ?_)
  refine s_nil ?_
  refine at_then_wp ?_
  first | refine r_cond_not rfl ?_ ?_ | refine r_cond_dec rfl ?_ ?_ | refine r_cond rfl ?_ ?_
  · intro hw
    refine r_seq ?_
    refine r_reg ?_
    refine ws (st_po (po_move rfl) rfl rfl rfl ?_)
    refine ws (st_po (po_assign rfl) rfl rfl rfl ?_)
    refine s_nil ?_
    refine at_then_wp ?_
    refine r_ret ?_
    refine at_then_ret ?_
    refine at_ret1 rfl (rv_tmp rfl) ⟨_, ⟨_, [], rfl, rfl, fun _ => rfl, fun ho => absurd hw (by rw [cost_opn ok ht]; exact ho.2.2), fun c k h => (by cases h)⟩, ?_⟩
    try dsimp only [List.cons_append, List.nil_append, GridS.l, GridS.p, MeshS.l, MeshS.lF, MeshS.p, FinderS.l, FinderS.p, heapL, heapP, heapLF, FinderS.lF]
    exact ent
  · intro hw
    have hto : Opn f.m.g.c t := ⟨ht.2.1, by have := ht.2.2; omega, by rw [← cost_opn ok ht]; exact hw⟩
    have hti : InS f.m.g.w f.m.g.h f.m.g.c (sectorN f.m.g.w f.m.g.h t) t := ⟨hto, ht, rfl⟩
    refine r_skip ?_
    refine at_then_wp ?_
    refine r_seq ?_
    refine r_reg ?_
    refine ws (st_call (co_fn rfl rfl) (heap_New) (by infer_instance) rfl rfl rfl ?_)
    rintro v33 _ ⟨hb0, rfl, rfl⟩
    try dsimp only [List.cons_append, List.nil_append, GridS.l, GridS.p, MeshS.l, MeshS.lF, MeshS.p, FinderS.l, FinderS.p, heapL, heapP, heapLF, FinderS.lF]
    refine ws (st_po (po_assign rfl) rfl rfl rfl ?_)
    refine s_nil ?_
    refine at_then_wp ?_
    refine r_seq ?_
    refine r_reg ?_
    refine ws (st_po (po_move rfl) rfl rfl rfl ?_)
    refine ws (st_po (po_move rfl) rfl rfl rfl ?_)
    refine ws (st_call (co_fn rfl rfl) (heap_Push hb0 (.slice none 0 0) [] 0 t (by simp) (fun j _ h => by simp at h)) (by infer_instance) rfl rfl rfl ?_)
    rintro v36 _ ⟨v1, l1, rfl, rfl, hp1, hl1⟩
    try dsimp only [List.cons_append, List.nil_append, GridS.l, GridS.p, MeshS.l, MeshS.lF, MeshS.p, FinderS.l, FinderS.p, heapL, heapP, heapLF, FinderS.lF]
    have hl1l := hl1.length_eq
    simp only [List.length_cons, List.length_nil] at hl1l
    refine s_nil ?_
    refine at_then_wp ?_
    refine r_seq ?_
    refine r_seq ?_
    refine r_reg ?_
    refine ws (st_po (po_move rfl) rfl rfl rfl ?_)
    refine ws (st_call (co_fn rfl rfl) (heap_Pop hb0 v1 l1 (by omega) (by omega) hp1) (by infer_instance) rfl rfl rfl ?_)
    rintro v39 _ ⟨e1, v2, l2, rfl, rfl, hpm, hp2, hmin⟩
    try dsimp only [List.cons_append, List.nil_append, GridS.l, GridS.p, MeshS.l, MeshS.lF, MeshS.p, FinderS.l, FinderS.p, heapL, heapP, heapLF, FinderS.lF]
    refine ws (st_po (po_move rfl) rfl rfl rfl ?_)
    refine ws (st_po (po_extract rfl rfl) rfl rfl rfl ?_)
    refine ws (st_po (po_extract rfl rfl) rfl rfl rfl ?_)
    refine ws (st_po (po_extract rfl rfl) rfl rfl rfl ?_)
    refine ws (st_po (po_assign rfl) rfl rfl rfl ?_)
    refine ws (st_po (po_assign rfl) rfl rfl rfl ?_)
    refine ws (st_po (po_assign rfl) rfl rfl rfl ?_)
    refine s_nil ?_
    refine at_then_wp ?_
    refine r_block ?_
    refine r_loop (S := Bool × Ent × Value × List Ent × List (Int × Int) × Int × Int) (fun ⟨o, e, v, l, kv, top, cur⟩ => [(9, .int .i64 e.key), (10, .int .i64 e.item), (11, .bool o)]) [(0, _), (1, _), (5, _), (6, _), (7, _), (8, _)] (fun ⟨o, e, v, l, kv, top, cur⟩ => Blk hb0 157 [v] :: Sl eH v l :: MpH r24 kv :: f.lF kept F) (fun ⟨o, e, v, l, kv, top, cur⟩ => Nxt f.m.g t o e l kv top cur) (fun ⟨o, e, v, l, kv, top, cur⟩ => muW kv f.m.g.c.length o l) ((true, e1, v2, l2, [], 0, t)) (And.intro rfl (And.intro rfl (And.intro rfl (And.intro rfl (And.intro rfl (And.intro rfl (trivial))))))) (And.intro rfl (And.intro rfl (And.intro rfl (trivial)))) (⟨hp2, fun _ => ⟨[⟨0, t⟩], Dij.start hti, hl1.symm.trans hpm, fun x hx => leE_key (hmin x (hl1.mem_iff.2 hx))⟩, fun h => by cases h⟩) ent ?_
    rintro ⟨o, e, v, l, kv, top, cur⟩ hI
    try dsimp only [List.cons_append, List.nil_append, GridS.l, GridS.p, MeshS.l, MeshS.lF, MeshS.p, FinderS.l, FinderS.p, heapL, heapP, heapLF, FinderS.lF]
    have hkl : (kv.length : Int) ≤ f.m.g.c.length := by
        rcases Bool.eq_false_or_eq_true o with e | e
        · obtain ⟨_, hd, _⟩ := hI.ok e; have := hd.cnt; omega
        · have := (hI.no e).2.cnt; omega
    refine r_seq ?_
    refine r_seq ?_
    refine r_reg ?_
    refine ws (st_po (po_move rfl) rfl rfl rfl ?_)
    refine s_nil ?_
    refine at_then_wp ?_
    first | refine r_cond_not rfl ?_ ?_ | refine r_cond_dec rfl ?_ ?_ | refine r_cond rfl ?_ ?_
    · intro ho
      obtain ⟨hp, hd, hpp, hmn⟩ := hI.ok ho
      have hmv := muW_t kv f.m.g.c.length l ho
      have hew := hd.wt e (hpp.mem_iff.2 (List.mem_cons_self ..))
      have hdt := hd.tp
      have hdl := hd.hl
      have hpl := hpp.length_eq
      simp only [List.length_cons] at hpl
      refine r_skip ?_
      refine at_then_wp ?_
      refine r_seq ?_
      refine r_block ?_
      refine r_seq ?_
      refine r_seq ?_
      refine r_reg ?_
      refine ws (st_po (po_move rfl) rfl rfl rfl ?_)
      refine ws (st_po (po_move rfl) rfl rfl rfl ?_)
      refine ws (st_po (po_lookup rfl rfl (by exact fc_map_129_3_3) (by exact fc_zint_3)) rfl rfl rfl ?_)
      refine ws (st_po (po_move rfl) rfl rfl rfl ?_)
      refine ws (st_po (po_extract rfl rfl) rfl rfl rfl ?_)
      refine ws (st_po (po_extract rfl rfl) rfl rfl rfl ?_)
      refine ws (st_po (po_assign rfl) rfl rfl rfl ?_)
      refine ws (st_po (po_assign rfl) rfl rfl rfl ?_)
      refine s_nil ?_
      refine at_then_wp ?_
      refine r_seq ?_
      refine r_reg ?_
      refine ws (st_po (po_move rfl) rfl rfl rfl ?_)
      refine s_nil ?_
      refine at_then_wp ?_
      first | refine r_cond_not rfl ?_ ?_ | refine r_cond_dec rfl ?_ ?_ | refine r_cond rfl ?_ ?_
      · intro hk
        have hd2 := hd.old hpp hk
        by_cases hl0 : l = []
        · skip
          subst hl0
          refine r_exit ?_
          refine at_then_exit ?_
          refine at_block_here ?_
          refine at_then_wp ?_
          refine r_reg ?_
          refine ws (st_po (po_move rfl) rfl rfl rfl ?_)
          refine ws (st_call (co_fn rfl rfl) (heap_Pop0 hb0 v) (by infer_instance) rfl rfl rfl ?_)
          rintro v46 _ ⟨rfl, rfl⟩
          try dsimp only [List.cons_append, List.nil_append, GridS.l, GridS.p, MeshS.l, MeshS.lF, MeshS.p, FinderS.l, FinderS.p, heapL, heapP, heapLF, FinderS.lF]
          refine ws (st_po (po_move rfl) rfl rfl rfl ?_)
          refine ws (st_po (po_extract rfl rfl) rfl rfl rfl ?_)
          refine ws (st_po (po_extract rfl rfl) rfl rfl rfl ?_)
          refine ws (st_po (po_extract rfl rfl) rfl rfl rfl ?_)
          refine ws (st_po (po_assign rfl) rfl rfl rfl ?_)
          refine ws (st_po (po_assign rfl) rfl rfl rfl ?_)
          refine ws (st_po (po_assign rfl) rfl rfl rfl ?_)
          refine s_nil ?_
          exact at_again ((false, ⟨0, 0⟩, v, [], kv, top, cur)) (And.intro rfl (And.intro rfl (And.intro rfl (trivial)))) (And.intro rfl (And.intro rfl (And.intro rfl (And.intro rfl (And.intro rfl (And.intro rfl (trivial))))))) (⟨hI.hp, fun h => (by cases h), fun _ => ⟨rfl, hd2⟩⟩) (by rw [hmv, muW_f kv _ _ rfl]; simp) ent
        · skip
          refine r_exit ?_
          refine at_then_exit ?_
          refine at_block_here ?_
          refine at_then_wp ?_
          refine r_reg ?_
          refine ws (st_po (po_move rfl) rfl rfl rfl ?_)
          refine ws (st_call (co_fn rfl rfl) (heap_Pop hb0 v l (by have := List.length_pos_iff.2 hl0; omega) (by omega) hI.hp) (by infer_instance) rfl rfl rfl ?_)
          rintro v46 _ ⟨e', v', l', rfl, rfl, hpm', hp', hmin'⟩
          try dsimp only [List.cons_append, List.nil_append, GridS.l, GridS.p, MeshS.l, MeshS.lF, MeshS.p, FinderS.l, FinderS.p, heapL, heapP, heapLF, FinderS.lF]
          refine ws (st_po (po_move rfl) rfl rfl rfl ?_)
          refine ws (st_po (po_extract rfl rfl) rfl rfl rfl ?_)
          refine ws (st_po (po_extract rfl rfl) rfl rfl rfl ?_)
          refine ws (st_po (po_extract rfl rfl) rfl rfl rfl ?_)
          refine ws (st_po (po_assign rfl) rfl rfl rfl ?_)
          refine ws (st_po (po_assign rfl) rfl rfl rfl ?_)
          refine ws (st_po (po_assign rfl) rfl rfl rfl ?_)
          refine s_nil ?_
          exact at_again ((true, e', v', l', kv, top, cur)) (And.intro rfl (And.intro rfl (And.intro rfl (trivial)))) (And.intro rfl (And.intro rfl (And.intro rfl (And.intro rfl (And.intro rfl (And.intro rfl (trivial))))))) (⟨hp', fun _ => ⟨l, hd2, hpm', fun x hx => leE_key (hmin' x hx)⟩, fun h => (by cases h)⟩) (by rw [hmv, muW_t kv _ _ rfl]; have := hpm'.length_eq; simp only [List.length_cons] at this; dsimp only; omega) ent
      · intro hk
        have hk2 : kv.lookup e.item = none := by simpa using hk
        have hd2 := hd.new hpp hmn hk2 hcl
        have hun := unk_snoc (d := e.key) hk2 hew.1.1.1 hew.1.1.2.1
        refine r_skip ?_
        refine at_then_wp ?_
        refine r_seq ?_
        refine r_reg ?_
        refine ws (st_po (po_move rfl) rfl rfl rfl ?_)
        refine ws (st_po (po_move rfl) rfl rfl rfl ?_)
        refine ws (st_po (po_move rfl) rfl rfl rfl ?_)
        refine ws (st_so (so_mapnew rfl rfl rfl (by exact fc_map_129_3_3) (by assumption)) rfl rfl ?_)
        refine s_nil ?_
        refine at_then_wp ?_
        refine r_seq ?_
        refine r_reg ?_
        refine ws (st_po (po_assign rfl) rfl rfl rfl ?_)
        refine s_nil ?_
        refine at_then_wp ?_
        refine r_block ?_
        refine r_loop (S := Nat × Value × List Ent) (fun ⟨s, v, l'⟩ => [(14, .int .i64 s)]) [(0, _), (1, _), (5, _), (6, _), (7, _), (8, _), (9, _), (10, _)] (fun ⟨s, v, l'⟩ => Blk hb0 157 [v] :: Sl eH v l' :: MpH r24 (kv ++ [(e.item, e.key)]) :: f.lF kept F) (fun ⟨s, v, l'⟩ => s ≤ 4 ∧ l'.length ≤ l.length + s ∧ HpL l' ∧ Dij f.m.g.w f.m.g.h f.m.g.c t (kv ++ [(e.item, e.key)]) l' e.key e.item s) (fun ⟨s, v, l'⟩ => 4 - s) ((0, v, l)) (And.intro rfl (And.intro rfl (And.intro rfl (And.intro rfl (And.intro rfl (And.intro rfl (And.intro rfl (And.intro rfl (trivial))))))))) (And.intro rfl (trivial)) (⟨by omega, by omega, hI.hp, hd2⟩) ent ?_
        rintro ⟨s, v, l'⟩ ⟨hs4, hll, hph, hd3⟩
        try dsimp only [List.cons_append, List.nil_append, GridS.l, GridS.p, MeshS.l, MeshS.lF, MeshS.p, FinderS.l, FinderS.p, heapL, heapP, heapLF, FinderS.lF]
        have hdl3 := hd3.hl
        refine r_seq ?_
        refine r_seq ?_
        refine r_reg ?_
        refine ws (st_po (po_move rfl) rfl rfl rfl ?_)
        refine ws (st_po (po_le rfl rfl) rfl rfl rfl ?_)
        refine s_nil ?_
        refine at_then_wp ?_
        first | refine r_cond_not rfl ?_ ?_ | refine r_cond_dec rfl ?_ ?_ | refine r_cond rfl ?_ ?_
        · intro hs
          refine r_skip ?_
          refine at_then_wp ?_
          refine r_seq ?_
          refine r_block ?_
          refine r_seq ?_
          refine r_reg ?_
          refine ws (st_po (po_move rfl) rfl rfl rfl ?_)
          refine ws (st_po (po_move rfl) rfl rfl rfl ?_)
          refine ws (st_po (po_move rfl) rfl rfl rfl ?_)
          refine ws (st_po (po_move rfl) rfl rfl rfl ?_)
          refine ws (st_call (co_fn rfl rfl) (where_Step f.m.g.w f.m.g.h e.item s) (by infer_instance) rfl rfl rfl ?_)
          rintro v68 _ ⟨rfl, rfl⟩
          try dsimp only [List.cons_append, List.nil_append, GridS.l, GridS.p, MeshS.l, MeshS.lF, MeshS.p, FinderS.l, FinderS.p, heapL, heapP, heapLF, FinderS.lF]
          refine ws (st_po (po_assign rfl) rfl rfl rfl ?_)
          refine s_nil ?_
          refine at_then_wp ?_
          refine r_seq ?_
          refine r_seq ?_
          refine r_reg ?_
          refine ws (st_po (po_move rfl) rfl rfl rfl ?_)
          refine ws (st_po (po_lt rfl rfl) rfl rfl rfl ?_)
          by_cases h1 : stepN f.m.g.w f.m.g.h e.item s < 0
          · skip
            refine ws (st_po (po_bt (po_move rfl) (decide_eq_true h1)) rfl rfl rfl ?_)
            refine ws (st_no rfl rfl rfl ?_)
            refine ws (st_no rfl rfl rfl ?_)
            refine ws (st_no rfl rfl rfl ?_)
            refine ws (st_no rfl rfl rfl ?_)
            refine ws (st_no rfl rfl rfl ?_)
            refine ws (st_no rfl rfl rfl ?_)
            refine ws (st_no rfl rfl rfl ?_)
            refine ws (st_no rfl rfl rfl ?_)
            refine ws (st_no rfl rfl rfl ?_)
            refine ws (st_po (po_pick_t rfl rfl) rfl rfl rfl ?_)
            refine ws (st_po (po_move rfl) rfl rfl rfl ?_)
            refine ws (st_no rfl rfl rfl ?_)
            refine ws (st_no rfl rfl rfl ?_)
            refine ws (st_no rfl rfl rfl ?_)
            refine ws (st_no rfl rfl rfl ?_)
            refine ws (st_no rfl rfl rfl ?_)
            refine ws (st_no rfl rfl rfl ?_)
            refine ws (st_no rfl rfl rfl ?_)
            refine ws (st_po (po_pick_t rfl rfl) rfl rfl rfl ?_)
            refine s_nil ?_
            refine at_then_wp ?_
            refine r_cond_t rfl rfl ?_
            refine r_exit ?_
            refine at_then_exit ?_
            refine at_block_here ?_
            refine at_then_wp ?_
            refine r_reg ?_
            refine ws (st_po (po_move rfl) rfl rfl rfl ?_)
            refine ws (st_po (po_add' rfl rfl (by omega) (by omega)) rfl rfl rfl ?_)
            refine ws (st_po (po_assign rfl) rfl rfl rfl ?_)
            refine s_nil ?_
            exact at_again ((s + 1, v, l')) (And.intro rfl (trivial)) (And.intro rfl (And.intro rfl (And.intro rfl (And.intro rfl (And.intro rfl (And.intro rfl (And.intro rfl (And.intro rfl (trivial))))))))) (⟨by omega, by dsimp only; omega, hph, hd3.skip (fun hn => by have := hn.1.1; omega)⟩) (by omega) ent
          · skip
            refine ws (st_po (po_bf (po_move rfl) (decide_eq_false h1)) rfl rfl rfl ?_)
            refine ws (st_po (po_move rfl) rfl rfl rfl ?_)
            refine ws (st_po (po_move rfl) rfl rfl rfl ?_)
            refine ws (st_po (po_move rfl) rfl rfl rfl ?_)
            refine ws (st_call (co_fn rfl rfl) (where_Sector f.m.g.w f.m.g.h (stepN f.m.g.w f.m.g.h e.item s)) (by infer_instance) rfl rfl rfl ?_)
            rintro v75 _ ⟨rfl, rfl⟩
            try dsimp only [List.cons_append, List.nil_append, GridS.l, GridS.p, MeshS.l, MeshS.lF, MeshS.p, FinderS.l, FinderS.p, heapL, heapP, heapLF, FinderS.lF]
            refine ws (st_po (po_move rfl) rfl rfl rfl ?_)
            refine ws (st_po (po_move rfl) rfl rfl rfl ?_)
            refine ws (st_po (po_move rfl) rfl rfl rfl ?_)
            refine ws (st_call (co_fn rfl rfl) (where_Sector f.m.g.w f.m.g.h t) (by infer_instance) rfl rfl rfl ?_)
            rintro v79 _ ⟨rfl, rfl⟩
            try dsimp only [List.cons_append, List.nil_append, GridS.l, GridS.p, MeshS.l, MeshS.lF, MeshS.p, FinderS.l, FinderS.p, heapL, heapP, heapLF, FinderS.lF]
            refine ws (st_po (po_ne rfl rfl) rfl rfl rfl ?_)
            refine ws (st_po (po_pick_f rfl rfl) rfl rfl rfl ?_)
            by_cases h2 : sectorN f.m.g.w f.m.g.h (stepN f.m.g.w f.m.g.h e.item s) ≠ sectorN f.m.g.w f.m.g.h t
            · skip
              refine ws (st_po (po_bt (po_move rfl) (decide_eq_true h2)) rfl rfl rfl ?_)
              refine ws (st_no rfl rfl rfl ?_)
              refine ws (st_no rfl rfl rfl ?_)
              refine ws (st_no rfl rfl rfl ?_)
              refine ws (st_no rfl rfl rfl ?_)
              refine ws (st_no rfl rfl rfl ?_)
              refine ws (st_no rfl rfl rfl ?_)
              refine ws (st_no rfl rfl rfl ?_)
              refine ws (st_po (po_pick_t rfl rfl) rfl rfl rfl ?_)
              refine s_nil ?_
              refine at_then_wp ?_
              refine r_cond_t rfl rfl ?_
              refine r_exit ?_
              refine at_then_exit ?_
              refine at_block_here ?_
              refine at_then_wp ?_
              refine r_reg ?_
              refine ws (st_po (po_move rfl) rfl rfl rfl ?_)
              refine ws (st_po (po_add' rfl rfl (by omega) (by omega)) rfl rfl rfl ?_)
              refine ws (st_po (po_assign rfl) rfl rfl rfl ?_)
              refine s_nil ?_
              exact at_again ((s + 1, v, l')) (And.intro rfl (trivial)) (And.intro rfl (And.intro rfl (And.intro rfl (And.intro rfl (And.intro rfl (And.intro rfl (And.intro rfl (And.intro rfl (trivial))))))))) (⟨by omega, by dsimp only; omega, hph, hd3.skip (fun hn => h2 hn.2.2)⟩) (by omega) ent
            · skip
              refine ws (st_po (po_bf (po_move rfl) (decide_eq_false h2)) rfl rfl rfl ?_)
              have hsc := ((step_ok hew.1.2.1 (show (0 : Int) ≤ s by omega) (by omega)).2 (by omega)).1
              refine ws (st_po (po_move rfl) rfl rfl rfl ?_)
              refine ws (st_po (po_nil rfl) rfl rfl rfl ?_)
              refine ws (st_po (po_faddr rfl (by exact fc_field_98_1_1)) rfl rfl rfl ?_)
              refine ws (st_po (po_load rfl (by exact fc_flat_27) (by rfl)) rfl rfl rfl ?_)
              refine ws (st_po (po_move rfl) rfl rfl rfl ?_)
              refine ws (st_call (co_fn rfl rfl) (grid_Cost f.m.g (stepN f.m.g.w f.m.g.h e.item s) ok.bytes) (by infer_instance) rfl rfl rfl ?_)
              rintro v88 _ ⟨rfl, rfl⟩
              try dsimp only [List.cons_append, List.nil_append, GridS.l, GridS.p, MeshS.l, MeshS.lF, MeshS.p, FinderS.l, FinderS.p, heapL, heapP, heapLF, FinderS.lF]
              refine ws (st_po (po_eq rfl rfl) rfl rfl rfl ?_)
              refine ws (st_po (po_pick_f rfl rfl) rfl rfl rfl ?_)
              refine s_nil ?_
              refine at_then_wp ?_
              first | refine r_cond_not rfl ?_ ?_ | refine r_cond_dec rfl ?_ ?_ | refine r_cond rfl ?_ ?_
              · intro h3
                refine r_exit ?_
                refine at_then_exit ?_
                refine at_block_here ?_
                refine at_then_wp ?_
                refine r_reg ?_
                refine ws (st_po (po_move rfl) rfl rfl rfl ?_)
                refine ws (st_po (po_add' rfl rfl (by omega) (by omega)) rfl rfl rfl ?_)
                refine ws (st_po (po_assign rfl) rfl rfl rfl ?_)
                refine s_nil ?_
                exact at_again ((s + 1, v, l')) (And.intro rfl (trivial)) (And.intro rfl (And.intro rfl (And.intro rfl (And.intro rfl (And.intro rfl (And.intro rfl (And.intro rfl (And.intro rfl (trivial))))))))) (⟨by omega, by dsimp only; omega, hph, hd3.skip (fun hn => hn.1.2.2 (by rw [← cost_opn ok hsc]; exact h3))⟩) (by omega) ent
              · intro h3
                have hni := (ins_iff ok (t := t)).1 ⟨⟨by omega, hsc⟩, Classical.not_not.1 h2, h3⟩
                have hce := cost_opn ok hew.1.2.1
                have hcr := hC _ hew.1.1
                refine r_skip ?_
                refine at_then_wp ?_
                refine r_reg ?_
                refine ws (st_po (po_move rfl) rfl rfl rfl ?_)
                refine ws (st_po (po_move rfl) rfl rfl rfl ?_)
                refine ws (st_po (po_move rfl) rfl rfl rfl ?_)
                refine ws (st_po (po_nil rfl) rfl rfl rfl ?_)
                refine ws (st_po (po_faddr rfl (by exact fc_field_98_1_1)) rfl rfl rfl ?_)
                refine ws (st_po (po_load rfl (by exact fc_flat_27) (by rfl)) rfl rfl rfl ?_)
                refine ws (st_po (po_move rfl) rfl rfl rfl ?_)
                refine ws (st_call (co_fn rfl rfl) (grid_Cost f.m.g e.item ok.bytes) (by infer_instance) rfl rfl rfl ?_)
                rintro v98 _ ⟨rfl, rfl⟩
                try dsimp only [List.cons_append, List.nil_append, GridS.l, GridS.p, MeshS.l, MeshS.lF, MeshS.p, FinderS.l, FinderS.p, heapL, heapP, heapLF, FinderS.lF]
                refine ws (st_po (po_add' rfl rfl (by omega) (by omega)) rfl rfl rfl ?_)
                refine ws (st_po (po_move rfl) rfl rfl rfl ?_)
                refine ws (st_call (co_fn rfl rfl) (heap_Push hb0 v l' (e.key + costN f.m.g.c e.item) (stepN f.m.g.w f.m.g.h e.item s) (by omega) hph) (by infer_instance) rfl rfl rfl ?_)
                rintro v101 _ ⟨v4, l4, rfl, rfl, hp4, hl4⟩
                try dsimp only [List.cons_append, List.nil_append, GridS.l, GridS.p, MeshS.l, MeshS.lF, MeshS.p, FinderS.l, FinderS.p, heapL, heapP, heapLF, FinderS.lF]
                refine s_nil ?_
                refine at_block_normal ?_
                refine at_then_wp ?_
                refine r_reg ?_
                refine ws (st_po (po_move rfl) rfl rfl rfl ?_)
                refine ws (st_po (po_add' rfl rfl (by omega) (by omega)) rfl rfl rfl ?_)
                refine ws (st_po (po_assign rfl) rfl rfl rfl ?_)
                refine s_nil ?_
                exact at_again ((s + 1, v4, l4)) (And.intro rfl (trivial)) (And.intro rfl (And.intro rfl (And.intro rfl (And.intro rfl (And.intro rfl (And.intro rfl (And.intro rfl (And.intro rfl (trivial))))))))) (⟨by omega, by have := hl4.length_eq; simp only [List.length_cons] at this; dsimp only; omega, hp4, hd3.push hC ⟨by omega, by omega⟩ (by rw [lookup_snoc hk2, if_pos rfl]) rfl (by simp; omega) hni (by rw [← hce]; exact hl4)⟩) (by omega) ent
        · intro hs
          have hd4 : Dij f.m.g.w f.m.g.h f.m.g.c t (kv ++ [(e.item, e.key)]) l' e.key e.item 4 := (by rw [show (4 : Int) = s by omega]; exact hd3)
          by_cases hl0 : l' = []
          · skip
            subst hl0
            refine r_exit ?_
            refine at_then_exit ?_
            refine at_then_exit ?_
            refine at_block_here ?_
            refine at_block_normal ?_
            refine at_then_wp ?_
            refine r_reg ?_
            refine ws (st_po (po_move rfl) rfl rfl rfl ?_)
            refine ws (st_call (co_fn rfl rfl) (heap_Pop0 hb0 v) (by infer_instance) rfl rfl rfl ?_)
            rintro v46 _ ⟨rfl, rfl⟩
            try dsimp only [List.cons_append, List.nil_append, GridS.l, GridS.p, MeshS.l, MeshS.lF, MeshS.p, FinderS.l, FinderS.p, heapL, heapP, heapLF, FinderS.lF]
            refine ws (st_po (po_move rfl) rfl rfl rfl ?_)
            refine ws (st_po (po_extract rfl rfl) rfl rfl rfl ?_)
            refine ws (st_po (po_extract rfl rfl) rfl rfl rfl ?_)
            refine ws (st_po (po_extract rfl rfl) rfl rfl rfl ?_)
            refine ws (st_po (po_assign rfl) rfl rfl rfl ?_)
            refine ws (st_po (po_assign rfl) rfl rfl rfl ?_)
            refine ws (st_po (po_assign rfl) rfl rfl rfl ?_)
            refine s_nil ?_
            exact at_again ((false, ⟨0, 0⟩, v, [], kv ++ [(e.item, e.key)], e.key, e.item)) (And.intro rfl (And.intro rfl (And.intro rfl (trivial)))) (And.intro rfl (And.intro rfl (And.intro rfl (And.intro rfl (And.intro rfl (And.intro rfl (trivial))))))) (⟨hph, fun h => (by cases h), fun _ => ⟨rfl, hd4⟩⟩) (by rw [hmv, muW_f _ _ _ rfl]; simp; omega) ent
          · skip
            refine r_exit ?_
            refine at_then_exit ?_
            refine at_then_exit ?_
            refine at_block_here ?_
            refine at_block_normal ?_
            refine at_then_wp ?_
            refine r_reg ?_
            refine ws (st_po (po_move rfl) rfl rfl rfl ?_)
            refine ws (st_call (co_fn rfl rfl) (heap_Pop hb0 v l' (by have := List.length_pos_iff.2 hl0; omega) (by omega) hph) (by infer_instance) rfl rfl rfl ?_)
            rintro v46 _ ⟨e', v', l5, rfl, rfl, hpm', hp', hmin'⟩
            try dsimp only [List.cons_append, List.nil_append, GridS.l, GridS.p, MeshS.l, MeshS.lF, MeshS.p, FinderS.l, FinderS.p, heapL, heapP, heapLF, FinderS.lF]
            refine ws (st_po (po_move rfl) rfl rfl rfl ?_)
            refine ws (st_po (po_extract rfl rfl) rfl rfl rfl ?_)
            refine ws (st_po (po_extract rfl rfl) rfl rfl rfl ?_)
            refine ws (st_po (po_extract rfl rfl) rfl rfl rfl ?_)
            refine ws (st_po (po_assign rfl) rfl rfl rfl ?_)
            refine ws (st_po (po_assign rfl) rfl rfl rfl ?_)
            refine ws (st_po (po_assign rfl) rfl rfl rfl ?_)
            refine s_nil ?_
            exact at_again ((true, e', v', l5, kv ++ [(e.item, e.key)], e.key, e.item)) (And.intro rfl (And.intro rfl (And.intro rfl (trivial)))) (And.intro rfl (And.intro rfl (And.intro rfl (And.intro rfl (And.intro rfl (And.intro rfl (trivial))))))) (⟨hp', fun _ => ⟨l', hd4, hpm', fun x hx => leE_key (hmin' x hx)⟩, fun h => (by cases h)⟩) (by rw [hmv, muW_t _ _ _ rfl]; have := hpm'.length_eq; simp only [List.length_cons] at this; dsimp only; omega) ent
    · intro ho
      obtain ⟨rfl, hd⟩ := hI.no (by simpa using ho)
      have hdn := hd.done (fun c hc => (hC c hc).1) (by omega)
      refine r_exit ?_
      refine at_then_exit ?_
      refine at_then_exit ?_
      refine at_block_here ?_
      refine at_then_wp ?_
      refine r_seq ?_
      refine r_reg ?_
      refine ws (st_po (po_move rfl) rfl rfl rfl ?_)
      refine ws (st_po (po_assign rfl) rfl rfl rfl ?_)
      refine s_nil ?_
      refine at_then_wp ?_
      refine r_ret ?_
      refine at_ret1 rfl (rv_tmp rfl) ⟨_, ⟨r24, kv, rfl, rfl, fun h => absurd hto h, fun _ => hdn.1, hdn.2⟩, ?_⟩
      try dsimp only [List.cons_append, List.nil_append, GridS.l, GridS.p, MeshS.l, MeshS.lF, MeshS.p, FinderS.l, FinderS.p, heapL, heapP, heapLF, FinderS.lF]
      exact ent
end Hd
end
section
namespace Hd
/-! ## the search over the border cells -/
/-- how far the cells of y's sector are from y, within it -/
noncomputable def sdN (g : GridS) (y : Int) : Int → Int := Classical.epsilon fun f => IsD g.w g.h g.c (InS g.w g.h g.c (sectorN g.w g.h y)) (fun c k => c = y ∧ k = 0) f
theorem sd_is {g : GridS} {y : Int} {f : Int → Int} (h : IsD g.w g.h g.c (InS g.w g.h g.c (sectorN g.w g.h y)) (fun c k => c = y ∧ k = 0) f) :
    IsD g.w g.h g.c (InS g.w g.h g.c (sectorN g.w g.h y)) (fun c k => c = y ∧ k = 0) (sdN g y) := Classical.epsilon_spec (p := fun f => IsD g.w g.h g.c (InS g.w g.h g.c (sectorN g.w g.h y)) (fun c k => c = y ∧ k = 0) f) ⟨f, h⟩
theorem opn_cost {g : GridS} (ok : GridOk g) {c : Int} (h : Opn g.c c) : 1 ≤ gAt g.c c ∧ gAt g.c c ≤ 255 := by
  have hl : c.toNat < g.c.length := by have := h.1; have := h.2.1; omega
  rw [gAt_get hl]; exact ok.bt _ (List.getElem_mem hl)
theorem sd_eq {g : GridS} (ok : GridOk g) {y : Int} {f : Int → Int} (h : IsD g.w g.h g.c (InS g.w g.h g.c (sectorN g.w g.h y)) (fun c k => c = y ∧ k = 0) f) (c : Int) : sdN g y c = f c :=
  isD_uniq (fun c hc => (opn_cost ok hc.1).1) (sd_is h) h c
theorem mem_nodes {g : GridS} (ok : GridOk g) {s a : Int} (hs : IsS g.w g.h s) : a ∈ nodesN g.w g.h g.c s ↔ Nd g.w g.h g.c a ∧ sectorN g.w g.h a = s := by
  unfold nodesN cellsN cellsTo
  rw [List.mem_filter, List.mem_map]
  have hz := secN_eq g.w g.h s
  unfold secN at hz
  constructor
  · rintro ⟨⟨l, hl, rfl⟩, ho⟩
    rw [List.mem_filter, List.mem_range] at hl
    have hll : (l : Int) < (sizeN g.w g.h s).1 * (sizeN g.w g.h s).2 := by have := hl.1; omega
    have hse := sector_global hs (by omega) hll
    have hc := (global_is hs (by omega) hll).1
    refine ⟨⟨⟨(open_iff ok).1 (of_decide_eq_true ho), hc⟩, ?_⟩, hse⟩
    have he := hl.2
    unfold edgeTo at he
    rw [List.any_eq_true] at he
    obtain ⟨j, hj, h0⟩ := he
    rw [List.mem_range] at hj
    have := over_ge.1 (of_decide_eq_true h0)
    exact ⟨j, by omega, this⟩
  · rintro ⟨⟨⟨ho, hc⟩, k, hk, h1⟩, rfl⟩
    have hl := local_lt hc
    refine ⟨⟨(localN g.w g.h a).toNat, List.mem_filter.2 ⟨List.mem_range.2 (by omega), ?_⟩, ?_⟩, decide_eq_true ((open_iff ok).2 ho)⟩
    · unfold edgeTo
      rw [List.any_eq_true]
      refine ⟨k.toNat, List.mem_range.2 (by omega), decide_eq_true ?_⟩
      rw [Int.toNat_of_nonneg hl.1, global_local hc, Int.toNat_of_nonneg hk.1]
      exact over_ge.2 h1
    · rw [Int.toNat_of_nonneg hl.1, global_local hc]
/-- an edge from a to b -/
def EdR (g : GridS) (b a c : Int) : Prop := Nd g.w g.h g.c a ∧ ((sectorN g.w g.h a = sectorN g.w g.h b ∧ a ≠ b ∧ sdN g b a < INF ∧ c = sdN g b a) ∨ (sectorN g.w g.h a ≠ sectorN g.w g.h b ∧ Adj g.w g.h b a ∧ c = gAt g.c b))
def undone (dn : List Int) (n : Nat) : Nat := (List.range n).countP fun (i : Nat) => decide ((i : Int) ∉ dn)
theorem undone_cons {dn : List Int} {c : Int} {n : Nat} (hn : c ∉ dn) (h0 : 0 ≤ c) (h1 : c < n) : undone (c :: dn) n + 1 = undone dn n := by
  unfold undone
  refine countP_one _ _ c.toNat ?_ ?_ ?_ n (by omega)
  · rw [Int.toNat_of_nonneg h0]; exact decide_eq_true hn
  · rw [Int.toNat_of_nonneg h0]; exact decide_eq_false (fun h => h (List.mem_cons_self ..))
  · intro x hx
    rw [decide_eq_decide, List.mem_cons, not_or]
    exact ⟨fun h => h.2, fun h => ⟨by omega, h⟩⟩
structure Sch (g : GridS) (t : Int) (R : List Int) (hp : List Ent) (dn : List Int) (top cur : Int) (todoI : List Int) (todo : List Edg) : Prop where
  rl : R.length = g.c.length
  rr : ∀ x ∈ R, 0 ≤ x ∧ x ≤ FAR
  hw : ∀ e, e ∈ hp → Nd g.w g.h g.c e.item ∧ top ≤ e.key ∧ gAt R e.item ≤ e.key ∧ e.key < FAR
  hn : hp.Nodup
  old : ∀ e, e ∈ hp → e.item ∈ dn → gAt R e.item < e.key
  cov : ∀ a, Nd g.w g.h g.c a → gAt R a < FAR → a ∈ dn ∨ ⟨gAt R a, a⟩ ∈ hp
  dnk : ∀ b, b ∈ dn → Nd g.w g.h g.c b ∧ gAt R b < FAR ∧ gAt R b ≤ top
  ini : Opn g.c t → ∀ a, Nd g.w g.h g.c a → sectorN g.w g.h a = sectorN g.w g.h t → sdN g t a < INF → gAt R a ≤ sdN g t a ∨ a ∈ todoI
  edg : ∀ b, b ∈ dn → ∀ a c, EdR g b a c → gAt R a ≤ gAt R b + c ∨ (b = cur ∧ ⟨a, c⟩ ∈ todo)
  tight : ∀ a, gAt R a < FAR → 0 ≤ a → a < R.length → Nd g.w g.h g.c a ∧ ((Opn g.c t ∧ sectorN g.w g.h a = sectorN g.w g.h t ∧ sdN g t a < INF ∧ gAt R a = sdN g t a) ∨ ∃ b c, b ∈ dn ∧ EdR g b a c ∧ gAt R a = gAt R b + c)
  cnt : dn.length + undone dn g.c.length = g.c.length
  hl : hp.length + todoI.length + todo.length ≤ 300 * (dn.length + 1)
section
variable {g : GridS} {t : Int} {R : List Int} {hp : List Ent} {dn : List Int} {top cur : Int} {todoI : List Int} {todo : List Edg}
theorem Sch.relax {hp' : List Ent} {a k : Int} (ok : GridOk g) (s : Sch g t R hp dn top cur todoI todo) (ha : Nd g.w g.h g.c a) (hk : k < gAt R a) (hk0 : 0 ≤ k) (htop : top ≤ k) (hpm : hp'.Perm (⟨k, a⟩ :: hp)) {todoI' : List Int} {todo' : List Edg} (hr : todoI'.length + todo'.length + hp'.length ≤ 300 * (dn.length + 1))
    (hI : ∀ j, j ∈ todoI → j ∈ todoI' ∨ (j = a ∧ k ≤ sdN g t a)) (hE : ∀ y, y ∈ todo → y ∈ todo' ∨ (y.to = a ∧ k ≤ gAt R cur + y.cost))
    (why : (Opn g.c t ∧ sectorN g.w g.h a = sectorN g.w g.h t ∧ sdN g t a < INF ∧ k = sdN g t a) ∨ ∃ b c, b ∈ dn ∧ EdR g b a c ∧ k = gAt R b + c) : Sch g t (R.set a.toNat k) hp' dn top cur todoI' todo' := by
  have hm : ∀ x, x ∈ hp' ↔ x = ⟨k, a⟩ ∨ x ∈ hp := fun x => by rw [hpm.mem_iff, List.mem_cons]
  have hal : 0 ≤ a ∧ a < R.length := ⟨ha.1.1.1, by have := ha.1.1.2.1; rw [s.rl]; exact this⟩
  have hg : ∀ j, 0 ≤ j → gAt (R.set a.toNat k) j = if j = a then k else gAt R j := fun j hj => gAt_set hal.1 hal.2 hj
  have hra : gAt R a ≤ FAR := by rw [gAt_get (by omega)]; exact (s.rr _ (List.getElem_mem _)).2
  have hle : ∀ j, 0 ≤ j → gAt (R.set a.toNat k) j ≤ gAt R j := fun j hj => by rw [hg j hj]; split <;> (try subst_vars) <;> omega
  have hnd : ∀ b, b ∈ dn → gAt (R.set a.toNat k) b = gAt R b := fun b hb => by
    have := s.dnk b hb
    rw [hg b this.1.1.1.1, if_neg]
    intro e; subst e; omega
  refine ⟨by simp [s.rl], fun x hx => ?_, fun e he => ?_, ?_, fun e he hd => ?_, fun j hj hjf => ?_, fun b hb => ?_, fun ho j hj1 hj2 hj3 => ?_, fun b hb j c hj => ?_, fun j hj h0 h1 => ?_, s.cnt, by omega⟩
  · rcases List.mem_or_eq_of_mem_set hx with e | e
    · exact s.rr x e
    · subst e; omega
  · rcases (hm e).1 he with e1 | e1
    · subst e1
      refine ⟨ha, htop, ?_, by dsimp only; omega⟩
      rw [hg _ hal.1, if_pos rfl]; exact Int.le_refl _
    · have := s.hw e e1
      have h2 := hle e.item this.1.1.1.1
      exact ⟨this.1, this.2.1, by omega, this.2.2.2⟩
  · rw [hpm.nodup_iff, List.nodup_cons]
    refine ⟨fun hin => ?_, s.hn⟩
    have := (s.hw _ hin).2.2.1
    dsimp only at this; omega
  · rw [hnd _ hd]
    rcases (hm e).1 he with e1 | e1
    · subst e1
      have := s.dnk _ hd
      dsimp only at this; omega
    · exact s.old e e1 hd
  · by_cases e : j = a
    · subst e; right; rw [hg _ hal.1, if_pos rfl]; exact (hm _).2 (.inl rfl)
    · have hgj := hg j hj.1.1.1
      rw [if_neg e] at hgj
      rw [hgj] at hjf ⊢
      rcases s.cov j hj hjf with h | h
      · exact .inl h
      · exact .inr ((hm _).2 (.inr h))
  · rw [hnd b hb]; exact s.dnk b hb
  · rcases s.ini ho j hj1 hj2 hj3 with h | h
    · have := hle j hj1.1.1.1; left; omega
    · rcases hI j h with h2 | ⟨rfl, h2⟩
      · exact .inr h2
      · left; rw [hg _ hal.1, if_pos rfl]; exact h2
  · rw [hnd b hb]
    rcases s.edg b hb j c hj with h | h
    · have := hle j hj.1.1.1.1; left; omega
    · rcases hE _ h.2 with h2 | ⟨h2, h3⟩
      · exact .inr ⟨h.1, h2⟩
      · left
        dsimp only at h2 h3
        rw [h2, hg _ hal.1, if_pos rfl, h.1]; exact h3
  · by_cases e : j = a
    · subst e
      rw [hg _ hal.1, if_pos rfl]
      refine ⟨ha, ?_⟩
      rcases why with h | ⟨b, c, hb, h2, h3⟩
      · exact .inl h
      · exact .inr ⟨b, c, hb, h2, by rw [hnd b hb]; exact h3⟩
    · have hgj := hg j h0
      rw [if_neg e] at hgj
      rw [hgj] at hj ⊢
      obtain ⟨h2, h3⟩ := s.tight j hj h0 (by simpa using h1)
      refine ⟨h2, ?_⟩
      rcases h3 with h | ⟨b, c, hb, h4, h5⟩
      · exact .inl h
      · exact .inr ⟨b, c, hb, h4, by rw [hnd b hb]; exact h5⟩
theorem Sch.dropI {a : Int} (s : Sch g t R hp dn top cur (a :: todoI) todo) (h : Opn g.c t → sdN g t a < INF → gAt R a ≤ sdN g t a) : Sch g t R hp dn top cur todoI todo :=
  ⟨s.rl, s.rr, s.hw, s.hn, s.old, s.cov, s.dnk, fun ho j h1 h2 h3 => (s.ini ho j h1 h2 h3).elim .inl (fun h4 => (List.mem_cons.1 h4).elim (fun e => .inl (by subst e; exact h ho h3)) .inr), s.edg, s.tight, s.cnt, by have := s.hl; simp only [List.length_cons] at this; omega⟩
theorem Sch.dropE {x : Edg} (s : Sch g t R hp dn top cur todoI (x :: todo)) (h : gAt R x.to ≤ gAt R cur + x.cost) : Sch g t R hp dn top cur todoI todo :=
  ⟨s.rl, s.rr, s.hw, s.hn, s.old, s.cov, s.dnk, s.ini, fun b hb a c hc => (s.edg b hb a c hc).elim .inl (fun ⟨h4, h5⟩ => (List.mem_cons.1 h5).elim (fun e => .inl (by subst h4; rw [← e] at h; exact h)) (fun e => .inr ⟨h4, e⟩)), s.tight, s.cnt, by have := s.hl; simp only [List.length_cons] at this; omega⟩
theorem Sch.popOld {e : Ent} {hp' : List Ent} (s : Sch g t R hp dn top cur [] []) (hpm : hp.Perm (e :: hp')) (hk : gAt R e.item < e.key) : Sch g t R hp' dn top cur [] [] := by
  have hm : ∀ x, x ∈ hp ↔ x = e ∨ x ∈ hp' := fun x => by rw [hpm.mem_iff, List.mem_cons]
  refine ⟨s.rl, s.rr, fun x hx => s.hw x ((hm x).2 (.inr hx)), (List.nodup_cons.1 (hpm.nodup_iff.1 s.hn)).2, fun x hx => s.old x ((hm x).2 (.inr hx)), fun a h1 h2 => ?_, s.dnk, s.ini, s.edg, s.tight, s.cnt, ?_⟩
  · rcases s.cov a h1 h2 with h | h
    · exact .inl h
    · rcases (hm _).1 h with e1 | e1
      · subst e1; dsimp only at hk; omega
      · exact .inr e1
  · have := s.hl
    have := hpm.length_eq
    simp only [List.length_cons, List.length_nil] at *; omega
theorem Sch.popNew {e : Ent} {hp' : List Ent} {es : List Edg} (s : Sch g t R hp dn top cur [] []) (hpm : hp.Perm (e :: hp')) (hmin : ∀ x, x ∈ hp → e.key ≤ x.key) (hk : ¬ gAt R e.item < e.key) (hes : es.length ≤ 300) (he : ∀ a c, EdR g e.item a c → ⟨a, c⟩ ∈ es) :
    Sch g t R hp' (e.item :: dn) e.key e.item [] es ∧ gAt R e.item = e.key ∧ undone (e.item :: dn) g.c.length + 1 = undone dn g.c.length := by
  have hm : ∀ x, x ∈ hp ↔ x = e ∨ x ∈ hp' := fun x => by rw [hpm.mem_iff, List.mem_cons]
  have h0 := s.hw e ((hm e).2 (.inl rfl))
  have hek : gAt R e.item = e.key := by omega
  have hnd : e.item ∉ dn := fun h => hk (s.old e ((hm e).2 (.inl rfl)) h)
  have hnod := List.nodup_cons.1 (hpm.nodup_iff.1 s.hn)
  have hu := undone_cons hnd h0.1.1.1.1 h0.1.1.1.2.1
  refine ⟨⟨s.rl, s.rr, fun x hx => ?_, hnod.2, fun x hx hd => ?_, fun a h1 h2 => ?_, fun b hb => ?_, s.ini, fun b hb a c hc => ?_, fun a h1 h2 h3 => ?_, by have := s.cnt; simp only [List.length_cons]; omega, ?_⟩, hek, hu⟩
  · have := s.hw x ((hm x).2 (.inr hx))
    exact ⟨this.1, hmin x ((hm x).2 (.inr hx)), this.2.2⟩
  · have hx1 := s.hw x ((hm x).2 (.inr hx))
    rcases List.mem_cons.1 hd with e1 | e1
    · rw [e1, hek]
      have := hmin x ((hm x).2 (.inr hx))
      rcases Int.lt_or_eq_of_le this with h | h
      · exact h
      · have : x = e := by cases x; cases e; simp_all
        rw [this] at hx; exact absurd hx hnod.1
    · exact s.old x ((hm x).2 (.inr hx)) e1
  · rcases s.cov a h1 h2 with h | h
    · exact .inl (List.mem_cons_of_mem _ h)
    · rcases (hm _).1 h with e1 | e1
      · left; rw [← e1]; exact List.mem_cons_self ..
      · exact .inr e1
  · rcases List.mem_cons.1 hb with e1 | e1
    · rw [e1]; exact ⟨h0.1, by omega, by omega⟩
    · have := s.dnk b e1
      exact ⟨this.1, this.2.1, by omega⟩
  · rcases List.mem_cons.1 hb with e1 | e1
    · rw [e1] at hc; exact .inr ⟨e1, he a c hc⟩
    · rcases s.edg b e1 a c hc with h | ⟨_, h⟩
      · exact .inl h
      · cases h
  · obtain ⟨h4, h5⟩ := s.tight a h1 h2 h3
    refine ⟨h4, ?_⟩
    rcases h5 with h | ⟨b, c, hb, h6, h7⟩
    · exact .inl h
    · exact .inr ⟨b, c, List.mem_cons_of_mem _ hb, h6, h7⟩
  · have := s.hl
    have := hpm.length_eq
    simp only [List.length_cons, List.length_nil] at *; omega
theorem Sch.start (t : Int) (todoI : List Int) (hl : todoI.length ≤ 256) (h : ∀ a, Nd g.w g.h g.c a → sectorN g.w g.h a = sectorN g.w g.h t → a ∈ todoI) : Sch g t (List.replicate g.c.length FAR) [] [] 0 0 todoI [] := by
  have hF : FAR = 2147483647 := rfl
  refine ⟨by simp, fun x hx => ?_, fun e he => (by cases he), .nil, fun e he => (by cases he), fun a ha hf => ?_, fun b hb => (by cases hb), fun _ a h1 h2 _ => .inr (h a h1 h2), fun b hb => (by cases hb), fun a hf h0 h1 => ?_, ?_, ?_⟩
  · rw [List.eq_of_mem_replicate hx]; omega
  · rw [gAt_get (by simp; have := ha.1.1.1; have := ha.1.1.2.1; omega)] at hf
    simp at hf
  · rw [gAt_get (by simp at h1 ⊢; omega)] at hf
    simp at hf
  · simp [undone]
  · simp; omega
theorem Sch.done (s : Sch g t R [] dn top cur [] []) : Bd g.w g.h g.c t (Nd g.w g.h g.c) (sdN g) (fun a => if 0 ≤ a ∧ a < R.length then gAt R a else FAR) := by
  have hF : FAR = 2147483647 := rfl
  have hin : ∀ a, Nd g.w g.h g.c a → (if 0 ≤ a ∧ a < R.length then gAt R a else FAR) = gAt R a := fun a ha => if_pos ⟨ha.1.1.1, by rw [s.rl]; exact ha.1.1.2.1⟩
  have hdn : ∀ a, Nd g.w g.h g.c a → gAt R a < FAR → a ∈ dn := fun a h1 h2 => (s.cov a h1 h2).elim id (fun h => by cases h)
  refine ⟨fun a => ?_, fun ho a h1 h2 h3 => ?_, fun b a h1 h2 h3 h4 h5 h6 => ?_, fun b a h1 h2 h3 h4 h5 => ?_, fun a => ?_⟩
  · split
    · rw [gAt_get (by omega)]; exact s.rr _ (List.getElem_mem _)
    · omega
  · rw [hin a h1]
    exact (s.ini ho a h1 h2 h3).elim id (fun h => by cases h)
  · rw [hin b h1] at h3 ⊢
    rw [hin a h2]
    exact (s.edg b (hdn b h1 h3) a _ ⟨h2, .inl ⟨h4, h5, h6, rfl⟩⟩).elim id (fun h => by cases h.2)
  · rw [hin b h1] at h3 ⊢
    rw [hin a h2]
    exact (s.edg b (hdn b h1 h3) a _ ⟨h2, .inr ⟨h4, h5, rfl⟩⟩).elim id (fun h => by cases h.2)
  · by_cases hr : 0 ≤ a ∧ a < R.length
    · rw [if_pos hr]
      by_cases hf : gAt R a < FAR
      · obtain ⟨h1, h2⟩ := s.tight a hf hr.1 hr.2
        refine .inr ⟨h1, ?_⟩
        rcases h2 with h | ⟨b, c, hb, ⟨_, h3⟩, h4⟩
        · exact .inl h
        · have hbn := s.dnk b hb
          refine .inr ⟨b, hbn.1, by rw [hin b hbn.1]; exact hbn.2.1, ?_⟩
          rw [hin b hbn.1]
          rcases h3 with ⟨h5, h6, h7, h8⟩ | ⟨h5, h6, h8⟩
          · exact .inl ⟨h5, h6, h7, by rw [← h8]; exact h4⟩
          · exact .inr ⟨h5, h6, by rw [← h8]; exact h4⟩
      · left
        rw [gAt_get (by omega)] at hf ⊢
        have := (s.rr _ (List.getElem_mem (show a.toNat < R.length by omega))).2
        omega
    · rw [if_neg hr]; exact .inl rfl
end
end Hd
end
section
namespace Hd
set_option maxRecDepth 100000
open Go

theorem one_src {g : GridS} {b c k : Int} (hb : InS g.w g.h g.c (sectorN g.w g.h b) b) : (InS g.w g.h g.c (sectorN g.w g.h b) c ∧ srcS (oneS (localN g.w g.h b)) (localN g.w g.h c) k) ↔ c = b ∧ k = 0 := by
  unfold srcS
  constructor
  · rintro ⟨hc, s, hs, h1, h2⟩
    rw [List.mem_singleton] at hs
    subst hs
    dsimp only at h1 h2
    have e1 := global_local hc.2.1
    have e2 := global_local hb.2.1
    rw [hc.2.2, ← h1, e2] at e1
    exact ⟨e1.symm, h2.symm⟩
  · rintro ⟨rfl, rfl⟩
    exact ⟨hb, _, List.mem_singleton.2 rfl, rfl, rfl⟩
theorem IsD.congr {w h : Int} {C : List Int} {In : Int → Prop} {src src' : Int → Int → Prop} {d : Int → Int} (k : IsD w h C In src d) (e : ∀ c x, src c x ↔ src' c x) : IsD w h C In src' d :=
  ⟨k.out, k.rng, fun c x s => k.low c x ((e c x).2 s), k.rel, fun c => by
    rcases k.tight c with a | a | a
    · exact .inl a
    · exact .inr (.inl ((e c _).1 a))
    · exact .inr (.inr a)⟩
theorem col_sd {g : GridS} (ok : GridOk g) {b : Int} (ho : Opn g.c b) {d : List Int} (hd : IsDist (tileN g (sectorN g.w g.h b)).w (tileN g (sectorN g.w g.h b)).h (tileN g (sectorN g.w g.h b)).c (srcS (oneS (localN g.w g.h b))) (dF d)) :
    IsD g.w g.h g.c (InS g.w g.h g.c (sectorN g.w g.h b)) (fun c k => c = b ∧ k = 0) (onMap g.w g.h g.c (sectorN g.w g.h b) (dF d)) := by
  have hc := opn_isC ok ho
  exact (tile_map ok (sector_lt hc).1 hd).congr fun c x => one_src ⟨ho, hc, rfl⟩
theorem onMap_g {g : GridS} (ok : GridOk g) {i a : Int} (hi : IsS g.w g.h i) (ha : InS g.w g.h g.c i a) {d : List Int} (hl : d.length = (tileN g i).c.length) : onMap g.w g.h g.c i (dF d) a = gAt d (localN g.w g.h a) := by
  have hlo := local_opn ok ha
  unfold onMap dF
  rw [if_pos ha, if_pos ⟨hlo.1, by rw [hl]; exact hlo.2.1⟩]
theorem mesh_sd {m : MeshS} (ok : MeshFr m) {y : Int} (hy : Nd m.g.w m.g.h m.g.c y) : IsD m.g.w m.g.h m.g.c (InS m.g.w m.g.h m.g.c (sectorN m.g.w m.g.h y)) (fun c k => c = y ∧ k = 0) (sdN m.g y) := by
  have hs := (sector_lt hy.1.2).1
  have hl := ok.iss.1 hs
  have hp := ok.part (sectorN m.g.w m.g.h y).toNat _ (List.getElem?_eq_getElem (by omega))
  rw [Int.toNat_of_nonneg hl.1] at hp
  have hm := (mem_nodes ok.g hs).2 ⟨hy, rfl⟩
  obtain ⟨j, hj, hje⟩ := List.getElem_of_mem hm
  obtain ⟨d, hdl, hd, -⟩ := hp.col j y (by rw [hp.nodes, List.getElem?_eq_getElem hj, hje])
  exact sd_is (col_sd ok.g hy.1.1 hd)
/-- what Into tells are the edges -/
theorem into_ed {m : MeshS} (ok : MeshFr m) {b : Int} (hb : Nd m.g.w m.g.h m.g.c b) {d : List Int} {es : List Edg} (hdl : d.length = (tileN m.g (sectorN m.g.w m.g.h b)).c.length)
    (hd : IsDist (tileN m.g (sectorN m.g.w m.g.h b)).w (tileN m.g (sectorN m.g.w m.g.h b)).h (tileN m.g (sectorN m.g.w m.g.h b)).c (srcS (oneS (localN m.g.w m.g.h b))) (dF d))
    (hes : ∀ e, e ∈ es ↔ InE m.g b d (nodesN m.g.w m.g.h m.g.c (sectorN m.g.w m.g.h b)).length e ∨ OverE m.g b 4 e) (a c : Int) : ⟨a, c⟩ ∈ es ↔ EdR m.g b a c := by
  have hs := (sector_lt hb.1.2).1
  have hdc := col_sd ok.g hb.1.1 hd
  have hse := sd_eq ok.g hdc
  rw [hes]
  have hval : ∀ a, InS m.g.w m.g.h m.g.c (sectorN m.g.w m.g.h b) a → sdN m.g b a = gAt d (localN m.g.w m.g.h a) := fun a ha => by rw [hse, onMap_g ok.g hs ha hdl]
  have hI : INF = 1099511627776 := rfl
  constructor
  · rintro (⟨i, hi, h1, h2, h3, h4⟩ | ⟨s, hs4, h1, h2, h3, h4, h5⟩)
    · have hm := List.mem_of_getElem? h1
      obtain ⟨hn, hse2⟩ := (mem_nodes ok.g hs).1 hm
      have hv := hval a ⟨hn.1.1, hn.1.2, hse2⟩
      have hr := hdc.rng a
      rw [← hse] at hr
      dsimp only at h2 h3 h4
      exact ⟨hn, .inl ⟨hse2, h2, by omega, by omega⟩⟩
    · obtain ⟨hn, -⟩ := (mem_nodes ok.g (sector_lt h2).1).1 h4
      refine ⟨hn, .inr ⟨h3, ⟨s, by omega, h1⟩, ?_⟩⟩
      dsimp only at h5
      rw [h5, cost_opn ok.g hb.1.2]
  · rintro ⟨hn, ⟨h1, h2, h3, h4⟩ | ⟨h1, ⟨s, hs4, h2⟩, h3⟩⟩
    · left
      have hv := hval a ⟨hn.1.1, hn.1.2, h1⟩
      obtain ⟨i, hi, he⟩ := List.getElem_of_mem ((mem_nodes ok.g hs).2 ⟨hn, h1⟩)
      exact ⟨i, hi, by rw [List.getElem?_eq_getElem hi, he], h2, by dsimp only; omega, by dsimp only; omega⟩
    · right
      refine ⟨s.toNat, by omega, by rw [Int.toNat_of_nonneg hs4.1]; exact h2, hn.1.2, h1, (mem_nodes ok.g (sector_lt hn.1.2).1).2 ⟨hn, rfl⟩, ?_⟩
      dsimp only
      rw [h3, cost_opn ok.g hb.1.2]

def muS (dn : List Int) (n : Nat) (o : Bool) (l : List Ent) : Nat := 301 * undone dn n + l.length + (if o = true then 1 else 0)
theorem muS_t (dn : List Int) (n : Nat) {o : Bool} (l : List Ent) (h : o = true) : muS dn n o l = 301 * undone dn n + l.length + 1 := by unfold muS; rw [if_pos h]
theorem muS_f (dn : List Int) (n : Nat) {o : Bool} (l : List Ent) (h : o = false) : muS dn n o l = 301 * undone dn n + l.length := by subst h; rfl
structure NxS (g : GridS) (t : Int) (R : List Int) (o : Bool) (e : Ent) (l : List Ent) (dn : List Int) (top cur : Int) : Prop where
  hp : HpL l
  rl : R.length = g.c.length
  rr : ∀ x ∈ R, 0 ≤ x ∧ x ≤ FAR
  hl : l.length ≤ 300 * (dn.length + 1)
  dl : dn.length ≤ g.c.length
  ok : o = true → ∃ hp, Sch g t R hp dn top cur [] [] ∧ hp.Perm (e :: l) ∧ ∀ x, x ∈ hp → e.key ≤ x.key
  no : o = false → l = [] ∧ Sch g t R [] dn top cur [] []
theorem NxS.mk_t {g : GridS} {t : Int} {R : List Int} {e : Ent} {l hp : List Ent} {dn : List Int} {top cur : Int} (s : Sch g t R hp dn top cur [] []) (hpm : hp.Perm (e :: l)) (hm : ∀ x ∈ hp, leE e x) (hl : HpL l) : NxS g t R true e l dn top cur :=
  ⟨hl, s.rl, s.rr, by have := s.hl; have := hpm.length_eq; simp only [List.length_cons, List.length_nil] at *; omega, by have := s.cnt; omega, fun _ => ⟨hp, s, hpm, fun x hx => leE_key (hm x hx)⟩, fun h => by cases h⟩
theorem NxS.mk_f {g : GridS} {t : Int} {R : List Int} {e : Ent} {dn : List Int} {top cur : Int} (s : Sch g t R [] dn top cur [] []) (hl : HpL []) : NxS g t R false e [] dn top cur :=
  ⟨hl, s.rl, s.rr, by simp, by have := s.cnt; omega, fun h => (by cases h), fun _ => ⟨rfl, s⟩⟩
theorem route_search (f : FinderS) (kept : Value) (ok : MeshFr f.m) (t : Int) (ht : IsC f.m.g.w f.m.g.h t) : Spec PP 63 #[f.p, .int .i64 t] (f.l kept)
    (fun v M => ∃ r : RouteS, v = r.p ∧ M = f.l kept ++ r.l ∧ r.goal = t ∧ r.ep = f.m.g.ep ∧ r.dist.length = f.m.g.c.length ∧ (∀ x ∈ r.dist, 0 ≤ x ∧ x ≤ FAR) ∧ (Opn f.m.g.c t → IsD f.m.g.w f.m.g.h f.m.g.c (InS f.m.g.w f.m.g.h f.m.g.c (sectorN f.m.g.w f.m.g.h t)) (fun c k => c = t ∧ k = 0) (sdN f.m.g t)) ∧
      Bd f.m.g.w f.m.g.h f.m.g.c t (Nd f.m.g.w f.m.g.h f.m.g.c) (sdN f.m.g) (fun a => if 0 ≤ a ∧ a < r.dist.length then gAt r.dist a else FAR)) := by
  have hcl := ok.g.len
  have hb := may_mul ok.g.may
  have hF : FAR = 2147483647 := rfl
  have hts := (sector_lt ht).1
  have hnl := nodes_len f.m.g.w f.m.g.h f.m.g.c (sectorN f.m.g.w f.m.g.h t)
  have hI : INF = 1099511627776 := rfl
  refine spec_of (Go.Proofs.Tryz.func63) rfl rfl rfl (by exact fc_enters_63) ?_
  intro g F
  try dsimp only [List.cons_append, List.nil_append, GridS.l, GridS.p, MeshS.l, MeshS.lF, MeshS.p, FinderS.l, FinderS.p, heapL, heapP, heapLF, FinderS.lF, RouteS.l, RouteS.p]
  refine r_seq ?_
  refine r_reg ?_
  refine ws (st_po (po_assign rfl) rfl rfl rfl ?_)
  refine s_nil ?_
  refine at_then_wp ?_
  refine r_seq ?_
  refine r_reg ?_
  refine ws (st_po (po_move rfl) rfl rfl rfl ?_)
  refine ws (st_po (po_nil rfl) rfl rfl rfl ?_)
  refine ws (st_po (po_faddr rfl (by exact fc_field_98_1_1)) rfl rfl rfl ?_)
  refine ws (st_po (po_load rfl (by exact fc_flat_27) (by rfl)) rfl rfl rfl ?_)
  refine ws (st_call (co_fn rfl rfl) (grid_Size f.m.g) (by infer_instance) rfl rfl rfl ?_)
  rintro v24 _ ⟨rfl, rfl⟩
  try dsimp only [List.cons_append, List.nil_append, GridS.l, GridS.p, MeshS.l, MeshS.lF, MeshS.p, FinderS.l, FinderS.p, heapL, heapP, heapLF, FinderS.lF, RouteS.l, RouteS.p]
  refine ws (st_po (po_move rfl) rfl rfl rfl ?_)
  refine ws (st_po (po_extract rfl rfl) rfl rfl rfl ?_)
  refine ws (st_po (po_extract rfl rfl) rfl rfl rfl ?_)
  refine ws (st_po (po_assign rfl) rfl rfl rfl ?_)
  refine ws (st_po (po_assign rfl) rfl rfl rfl ?_)
  refine s_nil ?_
  refine at_then_wp ?_
  refine r_seq ?_
  refine r_reg ?_
  refine ws (st_po (po_move rfl) rfl rfl rfl ?_)
  refine ws (st_po (po_move rfl) rfl rfl rfl ?_)
  refine ws (st_po (po_nil rfl) rfl rfl rfl ?_)
  refine ws (st_po (po_faddr rfl (by exact fc_field_98_1_1)) rfl rfl rfl ?_)
  refine ws (st_po (po_load rfl (by exact fc_flat_27) (by rfl)) rfl rfl rfl ?_)
  refine ws (st_call (co_fn rfl rfl) (grid_Epoch f.m.g) (by infer_instance) rfl rfl rfl ?_)
  rintro v32 _ ⟨rfl, rfl⟩
  try dsimp only [List.cons_append, List.nil_append, GridS.l, GridS.p, MeshS.l, MeshS.lF, MeshS.p, FinderS.l, FinderS.p, heapL, heapP, heapLF, FinderS.lF, RouteS.l, RouteS.p]
  refine ws (st_xo (xo_bslice eW [_] rfl (by exact fc_slice_82_21_1) (by exact fc_elem_21_1_4) ⟨rfl, rfl, trivial⟩ rfl (by decide)) rfl rfl rfl ?_)
  rintro v33 _ rfl
  refine ws (st_po (po_move rfl) rfl rfl rfl ?_)
  refine ws (st_po (po_move rfl) rfl rfl rfl ?_)
  refine ws (st_po (po_mul' rfl rfl (by omega) (by omega)) rfl rfl rfl ?_)
  refine ws (st_call (co_fn rfl rfl) (repeat_W v33 2147483647 (f.m.g.w * f.m.g.h) (by omega) (by omega)) (by infer_instance) rfl rfl rfl ?_)
  rintro v37 _ rfl
  try dsimp only [List.cons_append, List.nil_append, GridS.l, GridS.p, MeshS.l, MeshS.lF, MeshS.p, FinderS.l, FinderS.p, heapL, heapP, heapLF, FinderS.lF, RouteS.l, RouteS.p]
  refine ws (st_po (po_build1 rfl (by exact fc_zero_84) (by exact fc_places_84_0_1_2) (by exact fc_info_84) rfl) rfl rfl rfl ?_)
  refine ws (st_xo (xo_box rfl rfl) rfl rfl rfl ?_)
  rintro _ _ ⟨b39, rfl, rfl⟩
  refine ws (st_po (po_assign rfl) rfl rfl rfl ?_)
  refine s_nil ?_
  refine at_then_wp ?_
  refine r_seq ?_
  refine r_reg ?_
  refine ws (st_call (co_fn rfl rfl) (heap_New) (by infer_instance) rfl rfl rfl ?_)
  rintro v40 _ ⟨hb0, rfl, rfl⟩
  try dsimp only [List.cons_append, List.nil_append, GridS.l, GridS.p, MeshS.l, MeshS.lF, MeshS.p, FinderS.l, FinderS.p, heapL, heapP, heapLF, FinderS.lF, RouteS.l, RouteS.p]
  refine ws (st_po (po_assign rfl) rfl rfl rfl ?_)
  refine s_nil ?_
  refine at_then_wp ?_
  refine r_seq ?_
  refine r_reg ?_
  refine ws (st_po (po_move rfl) rfl rfl rfl ?_)
  refine ws (st_po (po_move rfl) rfl rfl rfl ?_)
  refine ws (st_call (co_fn rfl rfl) (route_within f kept ok.g t ht) (by infer_instance) rfl rfl rfl ?_)
  rintro v43 _ ⟨r, kv, rfl, rfl, hk0, hk1, hk2⟩
  try dsimp only [List.cons_append, List.nil_append, GridS.l, GridS.p, MeshS.l, MeshS.lF, MeshS.p, FinderS.l, FinderS.p, heapL, heapP, heapLF, FinderS.lF, RouteS.l, RouteS.p]
  have hsd : Opn f.m.g.c t → IsD f.m.g.w f.m.g.h f.m.g.c (InS f.m.g.w f.m.g.h f.m.g.c (sectorN f.m.g.w f.m.g.h t)) (fun c k => c = t ∧ k = 0) (sdN f.m.g t) := fun h => sd_is (hk1 h)
  rw [show (f.m.g.w * f.m.g.h).toNat = f.m.g.c.length by omega]
  refine ws (st_po (po_assign rfl) rfl rfl rfl ?_)
  refine s_nil ?_
  refine at_then_wp ?_
  refine r_seq ?_
  refine r_seq ?_
  refine r_ord [] _ [(0, 1), (1, 1), (2, 1), (3, 0), (4, 1), (5, 1), (6, 1), (10, 1), (7, 2), (8, 2), (9, 2)] fc_mixed (by kernel_rfl) (fun _ h => h) ?_
  refine o_fr rfl (po_move rfl) rfl rfl rfl ?_
  refine o_fr rfl (po_nil rfl) rfl rfl rfl ?_
  refine o_fr rfl (po_faddr rfl (by exact fc_field_98_0_0)) rfl rfl rfl ?_
  refine o_rd rfl (po_load rfl (by exact fc_flat_63) (by rfl)) (by first | exact fun _ h => h | exact ent) rfl rfl rfl ?_
  refine o_fr rfl (po_move rfl) rfl rfl rfl ?_
  refine o_fr rfl (po_move rfl) rfl rfl rfl ?_
  refine o_fr rfl (po_move rfl) rfl rfl rfl ?_
  refine o_fr rfl (po_move rfl) rfl rfl rfl ?_
  refine o_st rfl (st_call (co_fn rfl rfl) (where_Sector f.m.g.w f.m.g.h t) (by infer_instance) rfl rfl rfl ?_)
  rintro v51 _ ⟨rfl, rfl⟩
  try dsimp only [List.cons_append, List.nil_append, GridS.l, GridS.p, MeshS.l, MeshS.lF, MeshS.p, FinderS.l, FinderS.p, heapL, heapP, heapLF, FinderS.lF, RouteS.l, RouteS.p]
  refine ⟨fun _ => (by first | exact fun _ h => h | exact ent), ?_⟩
  refine o_st rfl (st_call (co_fn rfl rfl) (mesh_Nodes f.m ok (sectorN f.m.g.w f.m.g.h t) hts) (by infer_instance) rfl rfl rfl ?_)
  rintro v52 _ rfl
  try dsimp only [List.cons_append, List.nil_append, GridS.l, GridS.p, MeshS.l, MeshS.lF, MeshS.p, FinderS.l, FinderS.p, heapL, heapP, heapLF, FinderS.lF, RouteS.l, RouteS.p]
  refine ⟨fun _ => (by first | exact fun _ h => h | exact ent), ?_⟩
  refine o_st rfl (st_po (po_len rfl (by exact fc_slice_35_3_1)) rfl rfl rfl ?_)
  refine ⟨fun _ => (by first | exact fun _ h => h | exact ent), ?_⟩
  refine o_nil ?_
  refine at_then_wp ?_
  refine r_block ?_
  refine r_loop (S := Nat × Value × List Ent × List Int) (fun ⟨k, v, l, R⟩ => [(54, .int .i64 k)]) [(0, _), (7, _), (8, _), (9, _), (52, _), (53, _)] (fun ⟨k, v, l, R⟩ => Blk hb0 157 [v] :: Sl eH v l :: MpH r kv :: Sl eI v52 (nodesN f.m.g.w f.m.g.h f.m.g.c (sectorN f.m.g.w f.m.g.h t)) :: Blk b39 84 [.int .i64 t, .int .i64 f.m.g.ep, v37] :: Sl eW v37 R :: f.lF kept F) (fun ⟨k, v, l, R⟩ => k ≤ (nodesN f.m.g.w f.m.g.h f.m.g.c (sectorN f.m.g.w f.m.g.h t)).length ∧ HpL l ∧ Sch f.m.g t R l [] 0 0 ((nodesN f.m.g.w f.m.g.h f.m.g.c (sectorN f.m.g.w f.m.g.h t)).drop k) []) (fun ⟨k, v, l, R⟩ => (nodesN f.m.g.w f.m.g.h f.m.g.c (sectorN f.m.g.w f.m.g.h t)).length - k) ((0, .slice none 0 0, [], List.replicate f.m.g.c.length FAR)) (And.intro rfl (And.intro rfl (And.intro rfl (And.intro rfl (And.intro rfl (And.intro rfl (trivial))))))) (And.intro rfl (trivial)) (⟨by omega, fun j _ h => by simp at h, Sch.start t _ hnl (fun a h1 h2 => (mem_nodes ok.g hts).2 ⟨h1, h2⟩)⟩) ent ?_
  rintro ⟨k, v, l, R⟩ ⟨hk, hph, hs⟩
  try dsimp only [List.cons_append, List.nil_append, GridS.l, GridS.p, MeshS.l, MeshS.lF, MeshS.p, FinderS.l, FinderS.p, heapL, heapP, heapLF, FinderS.lF, RouteS.l, RouteS.p]
  refine r_seq ?_
  refine r_reg ?_
  refine ws (st_po (po_lt rfl rfl) rfl rfl rfl ?_)
  refine s_nil ?_
  refine at_then_wp ?_
  refine r_seq ?_
  first | refine r_cond_not rfl ?_ ?_ | refine r_cond_dec rfl ?_ ?_ | refine r_cond rfl ?_ ?_
  · intro hlt
    have hkl : k < (nodesN f.m.g.w f.m.g.h f.m.g.c (sectorN f.m.g.w f.m.g.h t)).length := by omega
    obtain ⟨a, hae⟩ : ∃ a, (nodesN f.m.g.w f.m.g.h f.m.g.c (sectorN f.m.g.w f.m.g.h t))[(k : Int).toNat]'(by omega) = a := ⟨_, rfl⟩
    have hza : (nodesN f.m.g.w f.m.g.h f.m.g.c (sectorN f.m.g.w f.m.g.h t))[k] = a := hae
    have hmem : a ∈ nodesN f.m.g.w f.m.g.h f.m.g.c (sectorN f.m.g.w f.m.g.h t) := hza ▸ List.getElem_mem hkl
    obtain ⟨han, has⟩ := (mem_nodes ok.g hts).1 hmem
    rw [List.drop_eq_getElem_cons hkl, hza] at hs
    have hah : 0 ≤ a ∧ a < R.length := ⟨han.1.1.1, by have := han.1.1.2.1; rw [hs.rl]; exact this⟩
    have hal := hs.hl
    simp only [List.length_cons, List.length_nil] at hal
    by_cases hsm : (kv.lookup a).isSome = true
    · skip
      obtain ⟨x, hx⟩ := Option.isSome_iff_exists.1 hsm
      have hto : Opn f.m.g.c t := Classical.byContradiction fun h => by rw [hk0 h] at hx; cases hx
      have hsdx : sdN f.m.g t a = x := by rw [sd_eq ok.g (hk1 hto), kvF, hx]; rfl
      have hxb := hk2 a x hx
      refine r_skip ?_
      refine at_then_wp ?_
      refine r_seq ?_
      refine r_block ?_
      refine r_seq ?_
      refine r_reg ?_
      refine ws (st_po (po_iaddr rfl rfl (by exact fc_slice_35_3_1) (by first | omega | (simp only [List.length_nil, List.length_cons, List.length_append, List.length_replicate, List.length_set, List.length_map, List.length_take, List.length_drop]; omega)) (by first | omega | (simp only [List.length_nil, List.length_cons, List.length_append, List.length_replicate, List.length_set, List.length_map, List.length_take, List.length_drop]; omega))) rfl rfl rfl ?_)
      refine ws (st_po (po_load_sl rfl (List.getElem?_eq_getElem (by first | omega | (simp only [List.length_nil, List.length_cons, List.length_append, List.length_replicate, List.length_set, List.length_map, List.length_take, List.length_drop]; omega))) (by exact fc_flat_3) (by rfl)) rfl rfl rfl ?_)
      refine ws (st_po (po_assign rfl) rfl rfl rfl ?_)
      refine s_nil ?_
      refine at_then_wp ?_
      refine r_seq ?_
      rw [hae]
      refine r_reg ?_
      refine ws (st_po (po_move rfl) rfl rfl rfl ?_)
      refine ws (st_po (po_move rfl) rfl rfl rfl ?_)
      refine ws (st_po (po_lookup rfl rfl (by exact fc_map_129_3_3) (by exact fc_zint_3)) rfl rfl rfl ?_)
      refine ws (st_po (po_move rfl) rfl rfl rfl ?_)
      refine ws (st_po (po_extract rfl rfl) rfl rfl rfl ?_)
      refine ws (st_po (po_extract rfl rfl) rfl rfl rfl ?_)
      refine ws (st_po (po_assign rfl) rfl rfl rfl ?_)
      refine ws (st_po (po_assign rfl) rfl rfl rfl ?_)
      refine s_nil ?_
      refine at_then_wp ?_
      refine r_seq ?_
      simp only [hx, Option.getD_some, Option.getD_none, Option.isSome_some, Option.isSome_none]
      refine r_reg ?_
      refine ws (st_po (po_move rfl) rfl rfl rfl ?_)
      refine ws (st_po (po_bt (po_move rfl) (rfl)) rfl rfl rfl ?_)
      refine ws (st_po (po_move rfl) rfl rfl rfl ?_)
      refine ws (st_po (po_move rfl) rfl rfl rfl ?_)
      refine ws (st_po (po_move rfl) rfl rfl rfl ?_)
      refine ws (st_call (co_fn rfl rfl) (route_near ⟨b39, t, f.m.g.ep, v37, R⟩ a x hah hs.rr hxb.1) (by infer_instance) rfl rfl rfl ?_)
      rintro v69 _ ⟨rfl, rfl⟩
      try dsimp only [List.cons_append, List.nil_append, GridS.l, GridS.p, MeshS.l, MeshS.lF, MeshS.p, FinderS.l, FinderS.p, heapL, heapP, heapLF, FinderS.lF, RouteS.l, RouteS.p]
      refine ws (st_po (po_pick_t rfl rfl) rfl rfl rfl ?_)
      refine s_nil ?_
      refine at_then_wp ?_
      first | refine r_cond_not rfl ?_ ?_ | refine r_cond_dec rfl ?_ ?_ | refine r_cond rfl ?_ ?_
      · intro hn
        rw [if_pos hn]
        refine r_reg ?_
        refine ws (st_po (po_move rfl) rfl rfl rfl ?_)
        refine ws (st_po (po_move rfl) rfl rfl rfl ?_)
        refine ws (st_po (po_move rfl) rfl rfl rfl ?_)
        refine ws (st_call (co_fn rfl rfl) (heap_Push hb0 v l x a (by omega) hph) (by infer_instance) rfl rfl rfl ?_)
        rintro v74 _ ⟨v2, l2, rfl, rfl, hp2, hl2⟩
        try dsimp only [List.cons_append, List.nil_append, GridS.l, GridS.p, MeshS.l, MeshS.lF, MeshS.p, FinderS.l, FinderS.p, heapL, heapP, heapLF, FinderS.lF, RouteS.l, RouteS.p]
        refine s_nil ?_
        refine at_block_normal ?_
        refine at_then_wp ?_
        refine r_reg ?_
        refine ws (st_po (po_add' rfl rfl (by omega) (by omega)) rfl rfl rfl ?_)
        refine ws (st_po (po_move rfl) rfl rfl rfl ?_)
        refine s_nil ?_
        exact at_again ((k + 1, v2, l2, R.set a.toNat x)) (And.intro rfl (trivial)) (And.intro rfl (And.intro rfl (And.intro rfl (And.intro rfl (And.intro rfl (And.intro rfl (trivial))))))) (⟨by omega, hp2, hs.relax ok.g han hn hxb.1 hxb.1 hl2 (by have h1 := hl2.length_eq; rw [List.length_cons] at h1; simp only [List.length_nil]; omega) (fun j hj => (List.mem_cons.1 hj).elim (fun h => .inr ⟨h, by rw [hsdx]; exact Int.le_refl _⟩) .inl) (fun y hy => .inl hy) (.inl ⟨hto, has, by rw [hsdx]; exact hxb.2.1, hsdx.symm⟩)⟩) (by omega) ent
      · intro hn
        rw [if_neg hn]
        refine r_skip ?_
        refine at_block_normal ?_
        refine at_then_wp ?_
        refine r_reg ?_
        refine ws (st_po (po_add' rfl rfl (by omega) (by omega)) rfl rfl rfl ?_)
        refine ws (st_po (po_move rfl) rfl rfl rfl ?_)
        refine s_nil ?_
        exact at_again ((k + 1, v, l, R)) (And.intro rfl (trivial)) (And.intro rfl (And.intro rfl (And.intro rfl (And.intro rfl (And.intro rfl (And.intro rfl (trivial))))))) (⟨by omega, hph, hs.dropI (fun _ _ => by rw [hsdx]; omega)⟩) (by omega) ent
    · skip
      have hx : kv.lookup a = none := by
          cases h : kv.lookup a with
          | none => rfl
          | some x => rw [h] at hsm; exact absurd rfl hsm
      refine r_skip ?_
      refine at_then_wp ?_
      refine r_seq ?_
      refine r_block ?_
      refine r_seq ?_
      refine r_reg ?_
      refine ws (st_po (po_iaddr rfl rfl (by exact fc_slice_35_3_1) (by first | omega | (simp only [List.length_nil, List.length_cons, List.length_append, List.length_replicate, List.length_set, List.length_map, List.length_take, List.length_drop]; omega)) (by first | omega | (simp only [List.length_nil, List.length_cons, List.length_append, List.length_replicate, List.length_set, List.length_map, List.length_take, List.length_drop]; omega))) rfl rfl rfl ?_)
      refine ws (st_po (po_load_sl rfl (List.getElem?_eq_getElem (by first | omega | (simp only [List.length_nil, List.length_cons, List.length_append, List.length_replicate, List.length_set, List.length_map, List.length_take, List.length_drop]; omega))) (by exact fc_flat_3) (by rfl)) rfl rfl rfl ?_)
      refine ws (st_po (po_assign rfl) rfl rfl rfl ?_)
      refine s_nil ?_
      refine at_then_wp ?_
      refine r_seq ?_
      rw [hae]
      refine r_reg ?_
      refine ws (st_po (po_move rfl) rfl rfl rfl ?_)
      refine ws (st_po (po_move rfl) rfl rfl rfl ?_)
      refine ws (st_po (po_lookup rfl rfl (by exact fc_map_129_3_3) (by exact fc_zint_3)) rfl rfl rfl ?_)
      refine ws (st_po (po_move rfl) rfl rfl rfl ?_)
      refine ws (st_po (po_extract rfl rfl) rfl rfl rfl ?_)
      refine ws (st_po (po_extract rfl rfl) rfl rfl rfl ?_)
      refine ws (st_po (po_assign rfl) rfl rfl rfl ?_)
      refine ws (st_po (po_assign rfl) rfl rfl rfl ?_)
      refine s_nil ?_
      refine at_then_wp ?_
      refine r_seq ?_
      simp only [hx, Option.getD_some, Option.getD_none, Option.isSome_some, Option.isSome_none]
      refine r_reg ?_
      refine ws (st_po (po_move rfl) rfl rfl rfl ?_)
      refine ws (st_po (po_bf (po_move rfl) (rfl)) rfl rfl rfl ?_)
      refine ws (st_no rfl rfl rfl ?_)
      refine ws (st_no rfl rfl rfl ?_)
      refine ws (st_no rfl rfl rfl ?_)
      refine ws (st_no rfl rfl rfl ?_)
      refine ws (st_po (po_pick_f rfl rfl) rfl rfl rfl ?_)
      refine s_nil ?_
      refine at_then_wp ?_
      refine r_cond_f rfl rfl ?_
      refine r_skip ?_
      refine at_block_normal ?_
      refine at_then_wp ?_
      refine r_reg ?_
      refine ws (st_po (po_add' rfl rfl (by omega) (by omega)) rfl rfl rfl ?_)
      refine ws (st_po (po_move rfl) rfl rfl rfl ?_)
      refine s_nil ?_
      exact at_again ((k + 1, v, l, R)) (And.intro rfl (trivial)) (And.intro rfl (And.intro rfl (And.intro rfl (And.intro rfl (And.intro rfl (And.intro rfl (trivial))))))) (⟨by omega, hph, hs.dropI (fun ho h => by rw [sd_eq ok.g (hk1 ho), kvF, hx] at h; exact absurd h (by decide))⟩) (by omega) ent
  · intro hlt
    rw [List.drop_eq_nil_of_le (by omega)] at hs
    have hsl := hs.hl
    simp only [List.length_cons, List.length_nil] at hsl
    have hdl0 : (0 : Nat) ≤ f.m.g.c.length := by omega
    refine r_exit ?_
    refine at_then_exit ?_
    refine at_then_exit ?_
    refine at_block_here ?_
    refine at_then_wp ?_
    refine r_seq ?_
    refine r_joink (S := Bool × Ent × Value × List Ent) (fun ⟨o, e, v, l⟩ => [(14, .int .i64 e.key), (15, .int .i64 e.item), (16, .bool o)]) [(0, _), (7, _), (8, _)] (fun ⟨o, e, v, l⟩ => Blk hb0 157 [v] :: Sl eH v l :: Blk b39 84 [.int .i64 t, .int .i64 f.m.g.ep, v37] :: Sl eW v37 R :: f.lF kept F) (fun ⟨o, e, v, l⟩ => NxS f.m.g t R o e l [] 0 0) (And.intro rfl (And.intro rfl (And.intro rfl (trivial)))) ?_ ?_
    · skip
      by_cases hl0 : l = []
      · skip
        subst hl0
        refine r_reg ?_
        refine ws (st_po (po_move rfl) rfl rfl rfl ?_)
        refine ws (st_call (co_fn rfl rfl) (heap_Pop0 hb0 v) (by infer_instance) rfl rfl rfl ?_)
        rintro v78 _ ⟨rfl, rfl⟩
        try dsimp only [List.cons_append, List.nil_append, GridS.l, GridS.p, MeshS.l, MeshS.lF, MeshS.p, FinderS.l, FinderS.p, heapL, heapP, heapLF, FinderS.lF, RouteS.l, RouteS.p]
        refine ws (st_po (po_move rfl) rfl rfl rfl ?_)
        refine ws (st_po (po_extract rfl rfl) rfl rfl rfl ?_)
        refine ws (st_po (po_extract rfl rfl) rfl rfl rfl ?_)
        refine ws (st_po (po_extract rfl rfl) rfl rfl rfl ?_)
        refine ws (st_po (po_assign rfl) rfl rfl rfl ?_)
        refine ws (st_po (po_assign rfl) rfl rfl rfl ?_)
        refine ws (st_po (po_assign rfl) rfl rfl rfl ?_)
        refine s_nil ?_
        exact at_join ((false, ⟨0, 0⟩, v, [])) (And.intro rfl (And.intro rfl (And.intro rfl (trivial)))) (And.intro rfl (And.intro rfl (And.intro rfl (trivial)))) (NxS.mk_f hs hph) ent
      · skip
        refine r_reg ?_
        refine ws (st_po (po_move rfl) rfl rfl rfl ?_)
        refine ws (st_call (co_fn rfl rfl) (heap_Pop hb0 v l (by have := List.length_pos_iff.2 hl0; omega) (by omega) hph) (by infer_instance) rfl rfl rfl ?_)
        rintro v78 _ ⟨e', v', l', rfl, rfl, hpm', hp', hmin'⟩
        try dsimp only [List.cons_append, List.nil_append, GridS.l, GridS.p, MeshS.l, MeshS.lF, MeshS.p, FinderS.l, FinderS.p, heapL, heapP, heapLF, FinderS.lF, RouteS.l, RouteS.p]
        refine ws (st_po (po_move rfl) rfl rfl rfl ?_)
        refine ws (st_po (po_extract rfl rfl) rfl rfl rfl ?_)
        refine ws (st_po (po_extract rfl rfl) rfl rfl rfl ?_)
        refine ws (st_po (po_extract rfl rfl) rfl rfl rfl ?_)
        refine ws (st_po (po_assign rfl) rfl rfl rfl ?_)
        refine ws (st_po (po_assign rfl) rfl rfl rfl ?_)
        refine ws (st_po (po_assign rfl) rfl rfl rfl ?_)
        refine s_nil ?_
        exact at_join ((true, e', v', l')) (And.intro rfl (And.intro rfl (And.intro rfl (trivial)))) (And.intro rfl (And.intro rfl (And.intro rfl (trivial)))) (NxS.mk_t hs hpm' hmin' hp') ent
    · rintro ⟨o, e, v, l⟩ hI0
      try dsimp only [List.cons_append, List.nil_append, GridS.l, GridS.p, MeshS.l, MeshS.lF, MeshS.p, FinderS.l, FinderS.p, heapL, heapP, heapLF, FinderS.lF, RouteS.l, RouteS.p]
      refine r_block ?_
      refine r_loop (S := Bool × Ent × Value × List Ent × List Int × List Int × Int × Int) (fun ⟨o, e, v, l, R, dn, top, cur⟩ => [(14, .int .i64 e.key), (15, .int .i64 e.item), (16, .bool o)]) [(0, _), (7, _), (8, _)] (fun ⟨o, e, v, l, R, dn, top, cur⟩ => Blk hb0 157 [v] :: Sl eH v l :: Blk b39 84 [.int .i64 t, .int .i64 f.m.g.ep, v37] :: Sl eW v37 R :: f.lF kept F) (fun ⟨o, e, v, l, R, dn, top, cur⟩ => NxS f.m.g t R o e l dn top cur) (fun ⟨o, e, v, l, R, dn, top, cur⟩ => muS dn f.m.g.c.length o l) ((o, e, v, l, R, [], 0, 0)) (And.intro rfl (And.intro rfl (And.intro rfl (trivial)))) (And.intro rfl (And.intro rfl (And.intro rfl (trivial)))) (hI0) ent ?_
      rintro ⟨o, e, v, l, R, dn, top, cur⟩ hI
      try dsimp only [List.cons_append, List.nil_append, GridS.l, GridS.p, MeshS.l, MeshS.lF, MeshS.p, FinderS.l, FinderS.p, heapL, heapP, heapLF, FinderS.lF, RouteS.l, RouteS.p]
      have hil := hI.hl
      have hidl := hI.dl
      refine r_seq ?_
      refine r_seq ?_
      refine r_reg ?_
      refine ws (st_po (po_move rfl) rfl rfl rfl ?_)
      refine s_nil ?_
      refine at_then_wp ?_
      first | refine r_cond_not rfl ?_ ?_ | refine r_cond_dec rfl ?_ ?_ | refine r_cond rfl ?_ ?_
      · intro ho
        obtain ⟨hp, hs, hpp, hmn⟩ := hI.ok ho
        have hmv := muS_t dn f.m.g.c.length l ho
        have hew := hs.hw e (hpp.mem_iff.2 (List.mem_cons_self ..))
        have hee : 0 ≤ e.item ∧ e.item < R.length := ⟨hew.1.1.1.1, by have := hew.1.1.1.2.1; rw [hs.rl]; exact this⟩
        have hge : gAt R e.item = R[e.item.toNat]'(by omega) := gAt_get (by omega)
        have hrb := hs.rr _ (List.getElem_mem (show e.item.toNat < R.length by omega))
        refine r_skip ?_
        refine at_then_wp ?_
        refine r_seq ?_
        refine r_block ?_
        refine r_seq ?_
        refine r_seq ?_
        refine r_reg ?_
        refine ws (st_po (po_move rfl) rfl rfl rfl ?_)
        refine ws (st_po (po_move rfl) rfl rfl rfl ?_)
        refine ws (st_po (po_nil rfl) rfl rfl rfl ?_)
        refine ws (st_po (po_faddr rfl (by exact fc_field_84_2_2)) rfl rfl rfl ?_)
        refine ws (st_po (po_load rfl (by exact fc_flat_82) (by rfl)) rfl rfl rfl ?_)
        refine ws (st_po (po_move rfl) rfl rfl rfl ?_)
        refine ws (st_po (po_iaddr rfl rfl (by exact fc_slice_82_21_1) (by first | omega | (simp only [List.length_nil, List.length_cons, List.length_append, List.length_replicate, List.length_set, List.length_map, List.length_take, List.length_drop]; omega)) (by first | omega | (simp only [List.length_nil, List.length_cons, List.length_append, List.length_replicate, List.length_set, List.length_map, List.length_take, List.length_drop]; omega))) rfl rfl rfl ?_)
        refine ws (st_po (po_load_sl rfl (List.getElem?_eq_getElem (by first | omega | (simp only [List.length_nil, List.length_cons, List.length_append, List.length_replicate, List.length_set, List.length_map, List.length_take, List.length_drop]; omega))) (by exact fc_flat_21) (by rfl)) rfl rfl rfl ?_)
        refine ws (st_po (po_conv_w rfl (by exact fc_int_21_i32) (by exact fc_int_3_i64) (wrap_i64 _ (by omega) (by omega))) rfl rfl rfl ?_)
        refine ws (st_po (po_gt rfl rfl) rfl rfl rfl ?_)
        refine s_nil ?_
        refine at_then_wp ?_
        first | refine r_cond_not rfl ?_ ?_ | refine r_cond_dec rfl ?_ ?_ | refine r_cond rfl ?_ ?_
        · intro hk
          have hs2 := hs.popOld hpp (by omega)
          by_cases hl0 : l = []
          · skip
            subst hl0
            refine r_exit ?_
            refine at_then_exit ?_
            refine at_block_here ?_
            refine at_then_wp ?_
            refine r_reg ?_
            refine ws (st_po (po_move rfl) rfl rfl rfl ?_)
            refine ws (st_call (co_fn rfl rfl) (heap_Pop0 hb0 v) (by infer_instance) rfl rfl rfl ?_)
            rintro v85 _ ⟨rfl, rfl⟩
            try dsimp only [List.cons_append, List.nil_append, GridS.l, GridS.p, MeshS.l, MeshS.lF, MeshS.p, FinderS.l, FinderS.p, heapL, heapP, heapLF, FinderS.lF, RouteS.l, RouteS.p]
            refine ws (st_po (po_move rfl) rfl rfl rfl ?_)
            refine ws (st_po (po_extract rfl rfl) rfl rfl rfl ?_)
            refine ws (st_po (po_extract rfl rfl) rfl rfl rfl ?_)
            refine ws (st_po (po_extract rfl rfl) rfl rfl rfl ?_)
            refine ws (st_po (po_assign rfl) rfl rfl rfl ?_)
            refine ws (st_po (po_assign rfl) rfl rfl rfl ?_)
            refine ws (st_po (po_assign rfl) rfl rfl rfl ?_)
            refine s_nil ?_
            exact at_again ((false, ⟨0, 0⟩, v, [], R, dn, top, cur)) (And.intro rfl (And.intro rfl (And.intro rfl (trivial)))) (And.intro rfl (And.intro rfl (And.intro rfl (trivial)))) (NxS.mk_f hs2 hI.hp) (by rw [hmv, muS_f _ _ _ rfl]; simp) ent
          · skip
            refine r_exit ?_
            refine at_then_exit ?_
            refine at_block_here ?_
            refine at_then_wp ?_
            refine r_reg ?_
            refine ws (st_po (po_move rfl) rfl rfl rfl ?_)
            refine ws (st_call (co_fn rfl rfl) (heap_Pop hb0 v l (by have := List.length_pos_iff.2 hl0; omega) (by omega) hI.hp) (by infer_instance) rfl rfl rfl ?_)
            rintro v85 _ ⟨e', v', l', rfl, rfl, hpm', hp', hmin'⟩
            try dsimp only [List.cons_append, List.nil_append, GridS.l, GridS.p, MeshS.l, MeshS.lF, MeshS.p, FinderS.l, FinderS.p, heapL, heapP, heapLF, FinderS.lF, RouteS.l, RouteS.p]
            refine ws (st_po (po_move rfl) rfl rfl rfl ?_)
            refine ws (st_po (po_extract rfl rfl) rfl rfl rfl ?_)
            refine ws (st_po (po_extract rfl rfl) rfl rfl rfl ?_)
            refine ws (st_po (po_extract rfl rfl) rfl rfl rfl ?_)
            refine ws (st_po (po_assign rfl) rfl rfl rfl ?_)
            refine ws (st_po (po_assign rfl) rfl rfl rfl ?_)
            refine ws (st_po (po_assign rfl) rfl rfl rfl ?_)
            refine s_nil ?_
            exact at_again ((true, e', v', l', R, dn, top, cur)) (And.intro rfl (And.intro rfl (And.intro rfl (trivial)))) (And.intro rfl (And.intro rfl (And.intro rfl (trivial)))) (NxS.mk_t hs2 hpm' hmin' hp') (by rw [hmv, muS_t _ _ _ rfl]; have := hpm'.length_eq; simp only [List.length_cons] at this; dsimp only; omega) ent
        · intro hk
          refine r_skip ?_
          refine at_then_wp ?_
          refine r_seq ?_
          refine r_reg ?_
          refine ws (st_po (po_move rfl) rfl rfl rfl ?_)
          refine ws (st_po (po_nil rfl) rfl rfl rfl ?_)
          refine ws (st_po (po_faddr rfl (by exact fc_field_98_0_0)) rfl rfl rfl ?_)
          refine ws (st_po (po_load rfl (by exact fc_flat_63) (by rfl)) rfl rfl rfl ?_)
          refine ws (st_po (po_move rfl) rfl rfl rfl ?_)
          refine ws (st_call (co_fn rfl rfl) (mesh_Into f.m ok e.item hew.1.1.2 ((mem_nodes ok.g (sector_lt hew.1.1.2).1).2 ⟨hew.1, rfl⟩)) (by infer_instance) rfl rfl rfl ?_)
          rintro v104 _ ⟨d, es, rfl, hel, hdl, hd, hes⟩
          try dsimp only [List.cons_append, List.nil_append, GridS.l, GridS.p, MeshS.l, MeshS.lF, MeshS.p, FinderS.l, FinderS.p, heapL, heapP, heapLF, FinderS.lF, RouteS.l, RouteS.p]
          have hed := into_ed ok hew.1 hdl hd hes
          obtain ⟨hs2, hke, hun⟩ := hs.popNew hpp hmn (by omega) hel (fun a c h => (hed a c).2 h)
          have hcn2 := hs2.cnt
          simp only [List.length_cons] at hcn2
          refine ws (st_po (po_len rfl (by exact fc_slice_73_76_2)) rfl rfl rfl ?_)
          refine ws (st_po (po_move rfl) rfl rfl rfl ?_)
          refine s_nil ?_
          refine at_then_wp ?_
          refine r_block ?_
          refine r_loop (S := Nat × Value × List Ent × List Int) (fun ⟨j, v, l', R'⟩ => [(106, .int .i64 j)]) [(0, _), (7, _), (8, _), (14, _), (104, _), (105, _)] (fun ⟨j, v, l', R'⟩ => Sl eE v104 es :: Blk hb0 157 [v] :: Sl eH v l' :: Blk b39 84 [.int .i64 t, .int .i64 f.m.g.ep, v37] :: Sl eW v37 R' :: f.lF kept F) (fun ⟨j, v, l', R'⟩ => j ≤ es.length ∧ l'.length ≤ l.length + j ∧ HpL l' ∧ gAt R' e.item = e.key ∧ Sch f.m.g t R' l' (e.item :: dn) e.key e.item [] (es.drop j)) (fun ⟨j, v, l', R'⟩ => es.length - j) ((0, v, l, R)) (And.intro rfl (And.intro rfl (And.intro rfl (And.intro rfl (And.intro rfl (And.intro rfl (trivial))))))) (And.intro rfl (trivial)) (⟨by omega, by omega, hI.hp, hke, hs2⟩) ent ?_
          rintro ⟨j, v, l', R'⟩ ⟨hj, hll, hph, hkr, hs3⟩
          try dsimp only [List.cons_append, List.nil_append, GridS.l, GridS.p, MeshS.l, MeshS.lF, MeshS.p, FinderS.l, FinderS.p, heapL, heapP, heapLF, FinderS.lF, RouteS.l, RouteS.p]
          have hl3 := hs3.hl
          simp only [List.length_cons, List.length_nil] at hl3
          refine r_seq ?_
          refine r_reg ?_
          refine ws (st_po (po_lt rfl rfl) rfl rfl rfl ?_)
          refine s_nil ?_
          refine at_then_wp ?_
          refine r_seq ?_
          first | refine r_cond_not rfl ?_ ?_ | refine r_cond_dec rfl ?_ ?_ | refine r_cond rfl ?_ ?_
          · intro hlt
            have hjl : j < es.length := by omega
            rw [List.drop_eq_getElem_cons hjl] at hs3 hl3
            simp only [List.length_cons, List.length_nil] at hl3
            obtain ⟨x, hxe⟩ : ∃ x, es[(j : Int).toNat]'(by omega) = x := ⟨_, rfl⟩
            have hxj : es[j] = x := hxe
            rw [hxj] at hs3
            have hxd : EdR f.m.g e.item x.to x.cost := (hed _ _).1 (by rw [← hxj]; exact List.getElem_mem hjl)
            have hxt : 0 ≤ x.to ∧ x.to < R'.length := ⟨hxd.1.1.1.1, by have := hxd.1.1.1.2.1; rw [hs3.rl]; exact this⟩
            have hxc : 0 ≤ x.cost ∧ x.cost ≤ 1099511627776 := by
                rcases hxd.2 with ⟨_, _, h1, h2⟩ | ⟨_, _, h2⟩
                · have := (mesh_sd ok hew.1).rng x.to; omega
                · have := opn_cost ok.g hew.1.1.1; omega
            refine r_skip ?_
            refine at_then_wp ?_
            refine r_seq ?_
            refine r_block ?_
            refine r_seq ?_
            refine r_reg ?_
            refine ws (st_po (po_iaddr rfl rfl (by exact fc_slice_73_76_2) (by first | omega | (simp only [List.length_nil, List.length_cons, List.length_append, List.length_replicate, List.length_set, List.length_map, List.length_take, List.length_drop]; omega)) (by first | omega | (simp only [List.length_nil, List.length_cons, List.length_append, List.length_replicate, List.length_set, List.length_map, List.length_take, List.length_drop]; omega))) rfl rfl rfl ?_)
            refine ws (st_po (ld_eE rfl (List.getElem?_eq_getElem (by first | omega | (simp only [List.length_nil, List.length_cons, List.length_append, List.length_replicate, List.length_set, List.length_map, List.length_take, List.length_drop]; omega))) (by exact fc_agg_76_2)) rfl rfl rfl ?_)
            refine ws (st_xo (xo_alloc (by exact fc_zero_76)) rfl rfl rfl ?_)
            rintro _ _ ⟨b18, rfl, rfl⟩
            refine ws (st_so (so_storea1 rfl rfl (by exact fc_agg_76_2) rfl rfl) rfl rfl ?_)
            refine s_nil ?_
            refine at_then_wp ?_
            refine r_seq ?_
            rw [hxe]
            refine r_reg ?_
            refine ws (st_po (po_move rfl) rfl rfl rfl ?_)
            refine ws (st_po (po_faddr rfl (by exact fc_field_76_0_0)) rfl rfl rfl ?_)
            refine ws (st_po (po_load rfl (by exact fc_flat_3) (by rfl)) rfl rfl rfl ?_)
            refine ws (st_po (po_move rfl) rfl rfl rfl ?_)
            refine ws (st_po (po_faddr rfl (by exact fc_field_76_1_1)) rfl rfl rfl ?_)
            refine ws (st_po (po_load rfl (by exact fc_flat_3) (by rfl)) rfl rfl rfl ?_)
            refine ws (st_po (po_add' rfl rfl (by omega) (by omega)) rfl rfl rfl ?_)
            refine ws (st_call (co_fn rfl rfl) (route_near ⟨b39, t, f.m.g.ep, v37, R'⟩ x.to (e.key + x.cost) hxt hs3.rr (by omega)) (by infer_instance) rfl rfl rfl ?_)
            rintro v117 _ ⟨rfl, rfl⟩
            try dsimp only [List.cons_append, List.nil_append, GridS.l, GridS.p, MeshS.l, MeshS.lF, MeshS.p, FinderS.l, FinderS.p, heapL, heapP, heapLF, FinderS.lF, RouteS.l, RouteS.p]
            refine s_nil ?_
            refine at_then_wp ?_
            first | refine r_cond_not rfl ?_ ?_ | refine r_cond_dec rfl ?_ ?_ | refine r_cond rfl ?_ ?_
            · intro hn
              rw [if_pos hn]
              refine r_reg ?_
              refine ws (st_po (po_move rfl) rfl rfl rfl ?_)
              refine ws (st_po (po_move rfl) rfl rfl rfl ?_)
              refine ws (st_po (po_faddr rfl (by exact fc_field_76_1_1)) rfl rfl rfl ?_)
              refine ws (st_po (po_load rfl (by exact fc_flat_3) (by rfl)) rfl rfl rfl ?_)
              refine ws (st_po (po_add' rfl rfl (by omega) (by omega)) rfl rfl rfl ?_)
              refine ws (st_po (po_faddr rfl (by exact fc_field_76_0_0)) rfl rfl rfl ?_)
              refine ws (st_po (po_load rfl (by exact fc_flat_3) (by rfl)) rfl rfl rfl ?_)
              refine ws (st_call (co_fn rfl rfl) (heap_Push hb0 v l' (e.key + x.cost) x.to (by omega) hph) (by infer_instance) rfl rfl rfl ?_)
              rintro v125 _ ⟨v2, l2, rfl, rfl, hp2, hl2⟩
              try dsimp only [List.cons_append, List.nil_append, GridS.l, GridS.p, MeshS.l, MeshS.lF, MeshS.p, FinderS.l, FinderS.p, heapL, heapP, heapLF, FinderS.lF, RouteS.l, RouteS.p]
              have hs4 := hs3.relax (todoI' := []) (todo' := es.drop (j + 1)) ok.g hxd.1 hn (by omega) (by omega) hl2 (by have h1 := hl2.length_eq; rw [List.length_cons] at h1; simp only [List.length_nil, List.length_cons]; omega) (fun y hy => .inl hy) (fun y hy => (List.mem_cons.1 hy).elim (fun h => .inr ⟨by rw [h], by rw [h, hkr]; exact Int.le_refl _⟩) .inl) (.inr ⟨e.item, x.cost, List.mem_cons_self .., hxd, by rw [hkr]⟩)
              have hkr2 : gAt (R'.set x.to.toNat (e.key + x.cost)) e.item = e.key := by rw [gAt_set hxt.1 hxt.2 hew.1.1.1.1, if_neg (fun h => by rw [h] at hkr; omega)]; exact hkr
              refine s_nil ?_
              refine at_block_normal ?_
              refine at_then_wp ?_
              refine r_reg ?_
              refine ws (st_po (po_add' rfl rfl (by omega) (by omega)) rfl rfl rfl ?_)
              refine ws (st_po (po_move rfl) rfl rfl rfl ?_)
              refine s_nil ?_
              exact at_again ((j + 1, v2, l2, R'.set x.to.toNat (e.key + x.cost))) (And.intro rfl (trivial)) (And.intro rfl (And.intro rfl (And.intro rfl (And.intro rfl (And.intro rfl (And.intro rfl (trivial))))))) (⟨by omega, by have := hl2.length_eq; simp only [List.length_cons] at this; dsimp only; omega, hp2, hkr2, hs4⟩) (by omega) ent
            · intro hn
              rw [if_neg hn]
              refine r_skip ?_
              refine at_block_normal ?_
              refine at_then_wp ?_
              refine r_reg ?_
              refine ws (st_po (po_add' rfl rfl (by omega) (by omega)) rfl rfl rfl ?_)
              refine ws (st_po (po_move rfl) rfl rfl rfl ?_)
              refine s_nil ?_
              exact at_again ((j + 1, v, l', R')) (And.intro rfl (trivial)) (And.intro rfl (And.intro rfl (And.intro rfl (And.intro rfl (And.intro rfl (And.intro rfl (trivial))))))) (⟨by omega, by dsimp only; omega, hph, hkr, hs3.dropE (by rw [hkr]; omega)⟩) (by omega) ent
          · intro hlt
            rw [List.drop_eq_nil_of_le (by omega)] at hs3
            by_cases hl0 : l' = []
            · skip
              subst hl0
              refine r_exit ?_
              refine at_then_exit ?_
              refine at_then_exit ?_
              refine at_block_here ?_
              refine at_block_normal ?_
              refine at_then_wp ?_
              refine r_reg ?_
              refine ws (st_po (po_move rfl) rfl rfl rfl ?_)
              refine ws (st_call (co_fn rfl rfl) (heap_Pop0 hb0 v) (by infer_instance) rfl rfl rfl ?_)
              rintro v85 _ ⟨rfl, rfl⟩
              try dsimp only [List.cons_append, List.nil_append, GridS.l, GridS.p, MeshS.l, MeshS.lF, MeshS.p, FinderS.l, FinderS.p, heapL, heapP, heapLF, FinderS.lF, RouteS.l, RouteS.p]
              refine ws (st_po (po_move rfl) rfl rfl rfl ?_)
              refine ws (st_po (po_extract rfl rfl) rfl rfl rfl ?_)
              refine ws (st_po (po_extract rfl rfl) rfl rfl rfl ?_)
              refine ws (st_po (po_extract rfl rfl) rfl rfl rfl ?_)
              refine ws (st_po (po_assign rfl) rfl rfl rfl ?_)
              refine ws (st_po (po_assign rfl) rfl rfl rfl ?_)
              refine ws (st_po (po_assign rfl) rfl rfl rfl ?_)
              refine s_nil ?_
              exact at_again ((false, ⟨0, 0⟩, v, [], R', e.item :: dn, e.key, e.item)) (And.intro rfl (And.intro rfl (And.intro rfl (trivial)))) (And.intro rfl (And.intro rfl (And.intro rfl (trivial)))) (NxS.mk_f hs3 hph) (by rw [hmv, muS_f _ _ _ rfl]; simp; omega) ent
            · skip
              refine r_exit ?_
              refine at_then_exit ?_
              refine at_then_exit ?_
              refine at_block_here ?_
              refine at_block_normal ?_
              refine at_then_wp ?_
              refine r_reg ?_
              refine ws (st_po (po_move rfl) rfl rfl rfl ?_)
              refine ws (st_call (co_fn rfl rfl) (heap_Pop hb0 v l' (by have := List.length_pos_iff.2 hl0; omega) (by omega) hph) (by infer_instance) rfl rfl rfl ?_)
              rintro v85 _ ⟨e', v', l5, rfl, rfl, hpm', hp', hmin'⟩
              try dsimp only [List.cons_append, List.nil_append, GridS.l, GridS.p, MeshS.l, MeshS.lF, MeshS.p, FinderS.l, FinderS.p, heapL, heapP, heapLF, FinderS.lF, RouteS.l, RouteS.p]
              refine ws (st_po (po_move rfl) rfl rfl rfl ?_)
              refine ws (st_po (po_extract rfl rfl) rfl rfl rfl ?_)
              refine ws (st_po (po_extract rfl rfl) rfl rfl rfl ?_)
              refine ws (st_po (po_extract rfl rfl) rfl rfl rfl ?_)
              refine ws (st_po (po_assign rfl) rfl rfl rfl ?_)
              refine ws (st_po (po_assign rfl) rfl rfl rfl ?_)
              refine ws (st_po (po_assign rfl) rfl rfl rfl ?_)
              refine s_nil ?_
              exact at_again ((true, e', v', l5, R', e.item :: dn, e.key, e.item)) (And.intro rfl (And.intro rfl (And.intro rfl (trivial)))) (And.intro rfl (And.intro rfl (And.intro rfl (trivial)))) (NxS.mk_t hs3 hpm' hmin' hp') (by rw [hmv, muS_t _ _ _ rfl]; have := hpm'.length_eq; simp only [List.length_cons] at this; dsimp only; omega) ent
      · intro ho
        obtain ⟨rfl, hs⟩ := hI.no (by simpa using ho)
        refine r_exit ?_
        refine at_then_exit ?_
        refine at_then_exit ?_
        refine at_block_here ?_
        refine at_then_wp ?_
        refine r_seq ?_
        refine r_reg ?_
        refine ws (st_po (po_move rfl) rfl rfl rfl ?_)
        refine ws (st_po (po_assign rfl) rfl rfl rfl ?_)
        refine s_nil ?_
        refine at_then_wp ?_
        refine r_ret ?_
        refine at_ret1 rfl (rv_tmp rfl) ⟨_, ⟨⟨b39, t, f.m.g.ep, v37, R⟩, rfl, rfl, rfl, rfl, hs.rl, hs.rr, hsd, hs.done⟩, ?_⟩
        try dsimp only [List.cons_append, List.nil_append, GridS.l, GridS.p, MeshS.l, MeshS.lF, MeshS.p, FinderS.l, FinderS.p, heapL, heapP, heapLF, FinderS.lF, RouteS.l, RouteS.p]
        exact ent
end Hd
end
section
namespace Hd
open Classical
/-! ## the whole map's distances: there is one solution -/
inductive Pth (w h : Int) (C : List Int) (t : Int) : Int → Nat → Prop
  | nil : OpC w h C t → Pth w h C t t 0
  | step {c m : Int} {n : Nat} : OpC w h C c → Adj w h c m → Pth w h C t m n → Pth w h C t c (n + (gAt C m).toNat)
theorem least {p : Nat → Prop} (h : ∃ n, p n) : ∃ n, p n ∧ ∀ m, p m → n ≤ m := by
  obtain ⟨n, hn⟩ := h
  induction n using Nat.strongRecOn with
  | _ n ih =>
    by_cases e : ∃ m, m < n ∧ p m
    · obtain ⟨m, hm, hp⟩ := e; exact ih m hm hp
    · exact ⟨n, hn, fun m hm => by rcases Nat.lt_or_ge m n with h | h; exact absurd ⟨m, h, hm⟩ e; exact h⟩
section
variable {w h : Int} {C : List Int} {t : Int}
theorem Pth.op {c : Int} {n : Nat} (k : Pth w h C t c n) : OpC w h C c := by cases k with
  | nil h => exact h
  | step h _ _ => exact h
/-- the least, where there is a way -/
def Lst (w h : Int) (C : List Int) (t c : Int) (n : Nat) : Prop := Pth w h C t c n ∧ ∀ m, Pth w h C t c m → n ≤ m
theorem Lst.uniq {c : Int} {n m : Nat} (a : Lst w h C t c n) (b : Lst w h C t c m) : n = m := by have := a.2 m b.1; have := b.2 n a.1; omega
theorem Lst.step {c : Int} {n : Nat} (k : Lst w h C t c n) : (c = t ∧ n = 0) ∨ ∃ m n', Adj w h c m ∧ OpC w h C c ∧ Lst w h C t m n' ∧ n = n' + (gAt C m).toNat := by
  obtain ⟨k, hl⟩ := k
  cases k with
  | nil h => exact .inl ⟨rfl, rfl⟩
  | @step _ m n' h1 h2 h3 =>
    refine .inr ⟨m, n', h2, h1, ⟨h3, fun x hx => ?_⟩, rfl⟩
    have := hl _ (.step h1 h2 hx)
    omega
theorem Lst.bound (hC : ∀ c, OpC w h C c → 1 ≤ gAt C c ∧ gAt C c ≤ 255) : ∀ (n : Nat) (c : Int), Lst w h C t c n → n ≤ 255 * (List.range C.length).countP (fun (i : Nat) => decide (∃ m, Lst w h C t i m ∧ m < n)) := by
  intro n
  induction n using Nat.strongRecOn with
  | _ n ih =>
    intro c hc
    rcases hc.step with ⟨_, e⟩ | ⟨m, n', h1, h2, h3, e⟩
    · omega
    · have hm := hC m h3.1.op
      have hmo := h3.1.op
      have := ih n' (by omega) m h3
      have hmm : ((m.toNat : Nat) : Int) = m := Int.toNat_of_nonneg hmo.1.1
      have hcnt := cnt_lt (fun i : Nat => decide (∃ x, Lst w h C t i x ∧ x < n')) (fun i : Nat => decide (∃ x, Lst w h C t i x ∧ x < n))
        (fun x hx => by have := of_decide_eq_true hx; exact decide_eq_true (by obtain ⟨y, h5, h6⟩ := this; exact ⟨y, h5, by omega⟩)) (List.range C.length) m.toNat (List.mem_range.2 (by have := hmo.1.2.1; omega))
        (decide_eq_true ⟨n', by rw [hmm]; exact h3, by omega⟩) (decide_eq_false (fun ⟨y, h5, h6⟩ => by rw [hmm] at h5; have := h5.uniq h3; omega))
      omega
end
theorem opc_cost {g : GridS} (ok : GridOk g) {c : Int} (h : OpC g.w g.h g.c c) : 1 ≤ gAt g.c c ∧ gAt g.c c ≤ 255 := opn_cost ok h.1
theorem flat_ex {g : GridS} (ok : GridOk g) (t : Int) : ∃ D, IsD g.w g.h g.c (OpC g.w g.h g.c) (srcT g.c t) D ∧ ∀ c, D c < INF → D c ≤ 255 * g.c.length := by
  have hI : INF = 1099511627776 := rfl
  have hlen : g.c.length ≤ 1048576 := by have := ok.len; have := may_mul ok.may; omega
  have hex : ∀ c, ∃ v : Int, (∃ n : Nat, v = n ∧ Lst g.w g.h g.c t c n) ∨ (v = INF ∧ ∀ n, ¬ Pth g.w g.h g.c t c n) := by
    intro c
    by_cases e : ∃ n, Pth g.w g.h g.c t c n
    · obtain ⟨n, hn⟩ := least e; exact ⟨n, .inl ⟨n, rfl, hn⟩⟩
    · exact ⟨INF, .inr ⟨rfl, fun n hn => e ⟨n, hn⟩⟩⟩
  obtain ⟨D, hD⟩ : ∃ D : Int → Int, ∀ c, (∃ n : Nat, D c = n ∧ Lst g.w g.h g.c t c n) ∨ (D c = INF ∧ ∀ n, ¬ Pth g.w g.h g.c t c n) := ⟨fun c => Classical.choose (hex c), fun c => Classical.choose_spec (hex c)⟩
  have hb : ∀ c n, Lst g.w g.h g.c t c n → n ≤ 255 * g.c.length := fun c n k => by
    have h1 := Lst.bound (fun c => opc_cost ok) n c k
    have h2 : (List.range g.c.length).countP (fun (i : Nat) => decide (∃ m, Lst g.w g.h g.c t i m ∧ m < n)) ≤ g.c.length := Nat.le_trans List.countP_le_length (by simp)
    omega
  refine ⟨D, ⟨fun c hn => ?_, fun c => ?_, fun c k hs => ?_, fun c m hc hm ha hl => ?_, fun c => ?_⟩, fun c hl => ?_⟩
  · rcases hD c with ⟨n, _, h2⟩ | ⟨h1, _⟩
    · exact absurd h2.1.op hn
    · exact h1
  · rcases hD c with ⟨n, h1, h2⟩ | ⟨h1, _⟩
    · right; have := hb c n h2; omega
    · exact .inl h1
  · obtain ⟨h1, rfl, rfl⟩ := hs
    have hp : Pth g.w g.h g.c c c 0 := .nil ⟨h1, opn_isC ok h1⟩
    rcases hD c with ⟨n, h3, h2⟩ | ⟨_, h2⟩
    · have := h2.2 0 hp; omega
    · exact absurd hp (h2 0)
  · rcases hD m with ⟨n, h1, h2⟩ | ⟨h1, _⟩
    · have hp := Pth.step hc ha h2.1
      have hcm := opc_cost ok hm
      rcases hD c with ⟨n', h3, h4⟩ | ⟨_, h4⟩
      · have := h4.2 _ hp; omega
      · exact absurd hp (h4 _)
    · omega
  · rcases hD c with ⟨n, h1, h2⟩ | ⟨h1, _⟩
    · rcases h2.step with ⟨e1, e2⟩ | ⟨m, n', h3, h4, h5, h6⟩
      · right; left
        have := h2.1.op
        exact ⟨by rw [← e1]; exact this.1, e1, by omega⟩
      · right; right
        have hcm := opc_cost ok h5.1.op
        have hbm := hb m n' h5
        rcases hD m with ⟨n2, h7, h8⟩ | ⟨_, h8⟩
        · have := h8.uniq h5
          exact ⟨m, h5.1.op, h3, by omega, by omega⟩
        · exact absurd h5.1 (h8 _)
    · exact .inl h1
  · rcases hD c with ⟨n, h1, h2⟩ | ⟨h1, _⟩
    · have := hb c n h2; omega
    · omega
noncomputable def flD (g : GridS) (t : Int) : Int → Int := Classical.epsilon fun D => IsD g.w g.h g.c (OpC g.w g.h g.c) (srcT g.c t) D
theorem fl_is {g : GridS} (ok : GridOk g) (t : Int) : IsD g.w g.h g.c (OpC g.w g.h g.c) (srcT g.c t) (flD g t) := by
  obtain ⟨D, h, _⟩ := flat_ex ok t
  exact Classical.epsilon_spec (p := fun D => IsD g.w g.h g.c (OpC g.w g.h g.c) (srcT g.c t) D) ⟨D, h⟩
theorem fl_eq {g : GridS} (ok : GridOk g) {t : Int} {D : Int → Int} (h : IsD g.w g.h g.c (OpC g.w g.h g.c) (srcT g.c t) D) (c : Int) : D c = flD g t c := isD_uniq (fun c hc => (opc_cost ok hc).1) h (fl_is ok t) c
theorem fl_bound {g : GridS} (ok : GridOk g) (t : Int) {c : Int} (h : flD g t c < INF) : 0 ≤ flD g t c ∧ flD g t c ≤ 255 * g.c.length := by
  obtain ⟨D, h1, h2⟩ := flat_ex ok t
  have := fl_eq ok h1 c
  have := (fl_is ok t).rng c
  have := h2 c (by omega)
  omega
end Hd
end
section
namespace Hd
set_option maxRecDepth 100000
open Go

/-- a route that tells of a grid as it is -/
structure RouteOk (g : GridS) (r : RouteS) : Prop where
  len : r.dist.length = g.c.length
  rng : ∀ x ∈ r.dist, 0 ≤ x ∧ x ≤ 2147483647
  nd : ∀ a, Nd g.w g.h g.c a → (if gAt r.dist a = FAR then INF else gAt r.dist a) = flD g r.goal a
  no : ∀ a : Int, 0 ≤ a → a < g.c.length → ¬ Nd g.w g.h g.c a → gAt r.dist a = FAR
theorem RouteOk.at {g : GridS} {r : RouteS} (ok : GridOk g) (k : RouteOk g r) (c : Int) : atN r c = (open Classical in if Nd g.w g.h g.c c then flD g r.goal c else INF) := by
  have hl := k.len
  have hF : FAR = 2147483647 := rfl
  have hI : INF = 1099511627776 := rfl
  unfold atN
  by_cases hn : Nd g.w g.h g.c c
  · rw [if_pos hn, ← k.nd c hn]
    have h1 := hn.1.1.1
    have h2 := hn.1.1.2.1
    by_cases e : gAt r.dist c = 2147483647
    · rw [if_neg (fun h => h.2.2 e), if_pos e]
    · rw [if_pos ⟨h1, by omega, e⟩, if_neg e]
  · rw [if_neg hn]
    by_cases e : 0 ≤ c ∧ c < r.dist.length ∧ gAt r.dist c ≠ 2147483647
    · exact absurd (k.no c e.1 (by omega) hn) e.2.2
    · rw [if_neg e]
theorem route_ok {m : MeshS} (ok : MeshFr m) {r : RouteS} (ht : IsC m.g.w m.g.h r.goal) (hl : r.dist.length = m.g.c.length) (hr : ∀ x ∈ r.dist, 0 ≤ x ∧ x ≤ FAR)
    (hs : Opn m.g.c r.goal → IsD m.g.w m.g.h m.g.c (InS m.g.w m.g.h m.g.c (sectorN m.g.w m.g.h r.goal)) (fun c k => c = r.goal ∧ k = 0) (sdN m.g r.goal))
    (hB : Bd m.g.w m.g.h m.g.c r.goal (Nd m.g.w m.g.h m.g.c) (sdN m.g) (fun a => if 0 ≤ a ∧ a < r.dist.length then gAt r.dist a else FAR)) : RouteOk m.g r := by
  have hlen := ok.g.len
  have hmul := may_mul ok.g.may
  have hF : FAR = 2147483647 := rfl
  refine ⟨hl, hr, fun a ha => ?_, fun a h0 h1 hn => ?_⟩
  · have := bd_eq (a := a) (fun c hc => (opc_cost ok.g hc).1) (fl_is ok.g r.goal) (fun c hc => by have := fl_bound ok.g r.goal hc; omega)
      (fun y hy => by
        rcases hy with hy | ⟨e, hy⟩
        · exact mesh_sd ok hy
        · rw [e]; exact hs hy.1) (fun ho => ⟨ho, ht⟩) hB ha
    have e : (if 0 ≤ a ∧ a < r.dist.length then gAt r.dist a else FAR) = gAt r.dist a := if_pos ⟨ha.1.1.1, by rw [hl]; exact ha.1.1.2.1⟩
    rw [e] at this
    exact this
  · rcases hB.tight a with e | e
    · rw [if_pos ⟨h0, by omega⟩] at e; exact e
    · exact absurd e.1 hn

/-- the route that is kept, if any -/
abbrev keptV (k : Option RouteS) : Value := match k with | some r => r.p | none => .pointer none
def keptL (k : Option RouteS) : List HP := match k with | some r => r.l | none => []
theorem route_Find0 (f : FinderS) (kept : Value) (ok : GridOk f.m.g) (t : Int) (ht : ¬ IsC f.m.g.w f.m.g.h t) : Spec PP 31 #[f.p, .int .i64 t] (f.l kept) (fun v M => v = .pointer none ∧ M = f.l kept) := by
  refine spec_of (Go.Proofs.Tryz.func31) rfl rfl rfl (by exact fc_enters_31) ?_
  intro g F
  try dsimp only [List.cons_append, List.nil_append, GridS.l, GridS.p, MeshS.l, MeshS.lF, MeshS.p, FinderS.l, FinderS.p, FinderS.lF, RouteS.l, RouteS.p]
  refine r_seq ?_
  refine r_reg ?_
  refine ws (st_po (po_assign rfl) rfl rfl rfl ?_)
  refine s_nil ?_
  refine at_then_wp ?_
  refine r_seq ?_
  refine r_seq ?_
  refine r_reg ?_
  refine ws (st_po (po_move rfl) rfl rfl rfl ?_)
  refine ws (st_po (po_peq rfl rfl (by exact fc_ptr_61)) rfl rfl rfl ?_)
  refine ws (st_po (po_bf (po_move rfl) (rfl)) rfl rfl rfl ?_)
  refine ws (st_po (po_move rfl) rfl rfl rfl ?_)
  refine ws (st_po (po_nil rfl) rfl rfl rfl ?_)
  refine ws (st_po (po_faddr rfl (by exact fc_field_98_1_1)) rfl rfl rfl ?_)
  refine ws (st_po (po_load rfl (by exact fc_flat_27) (by rfl)) rfl rfl rfl ?_)
  refine ws (st_po (po_move rfl) rfl rfl rfl ?_)
  refine ws (st_call (co_fn rfl rfl) (grid_Cost f.m.g t ok.bytes) (by infer_instance) rfl rfl rfl ?_)
  rintro v13 _ ⟨rfl, rfl⟩
  try dsimp only [List.cons_append, List.nil_append, GridS.l, GridS.p, MeshS.l, MeshS.lF, MeshS.p, FinderS.l, FinderS.p, FinderS.lF, RouteS.l, RouteS.p]
  refine ws (st_po (po_eq rfl rfl) rfl rfl rfl ?_)
  refine ws (st_po (po_pick_f rfl rfl) rfl rfl rfl ?_)
  refine s_nil ?_
  refine at_then_wp ?_
  first | refine r_dec_t rfl (by rw [costN, if_neg (fun h => ht (ok.isc.2 h))]) ?_ | refine r_nd_t rfl (by rw [costN, if_neg (fun h => ht (ok.isc.2 h))]) ?_ | refine r_cond_t rfl (by rw [costN, if_neg (fun h => ht (ok.isc.2 h))]) ?_
  refine r_seq ?_
  refine r_reg ?_
  refine ws (st_po (po_assign rfl) rfl rfl rfl ?_)
  refine s_nil ?_
  refine at_then_wp ?_
  refine r_ret ?_
  refine at_then_ret ?_
  refine at_ret1 rfl (rv_tmp rfl) ⟨_, ⟨rfl, rfl⟩, ?_⟩
  try dsimp only [List.cons_append, List.nil_append, GridS.l, GridS.p, MeshS.l, MeshS.lF, MeshS.p, FinderS.l, FinderS.p, FinderS.lF, RouteS.l, RouteS.p]
  exact ent
theorem cost_ne {g : GridS} (ok : GridOk g) {t : Int} (ht : IsC g.w g.h t) : ¬ costN g.c t = 0 := by
  have h := ok.isc.1 ht
  rw [costN, if_pos h]
  have := ok.bt _ (List.getElem_mem (show t.toNat < g.c.length by omega))
  show ¬ gAt g.c t = 0
  rw [gAt_get (by omega)]; omega
/-- the first time -/
theorem route_Find1 (f : FinderS) (ok : MeshOk f.m) (t : Int) (ht : IsC f.m.g.w f.m.g.h t) (hc : 0 ≤ f.count ∧ f.count ≤ 18446744073709551615) : Spec PP 31 #[f.p, .int .i64 t] (f.l (.pointer none))
    (fun v M => ∃ (f' : FinderS) (r : RouteS), v = r.p ∧ M = f'.l r.p ++ r.l ∧ r.goal = t ∧ r.ep = f.m.g.ep ∧ RouteOk f.m.g r ∧ MeshOk f'.m ∧ f'.m.g = f.m.g ∧ f'.m.b = f.m.b ∧ f'.m.pv = f.m.pv ∧ f'.m.clean = f.m.g.ep ∧ f'.b = f.b ∧
      f'.m.count = min (f.m.count + (dirtyTo f.m f.m.ps.length).length) 18446744073709551615 ∧ f'.count = min (f.count + 1) 18446744073709551615) := by
  refine spec_of (Go.Proofs.Tryz.func31) rfl rfl rfl (by exact fc_enters_31) ?_
  intro g F
  try dsimp only [List.cons_append, List.nil_append, GridS.l, GridS.p, MeshS.l, MeshS.lF, MeshS.p, FinderS.l, FinderS.p, FinderS.lF, RouteS.l, RouteS.p]
  refine r_seq ?_
  refine r_reg ?_
  refine ws (st_po (po_assign rfl) rfl rfl rfl ?_)
  refine s_nil ?_
  refine at_then_wp ?_
  refine r_seq ?_
  refine r_seq ?_
  refine r_reg ?_
  refine ws (st_po (po_move rfl) rfl rfl rfl ?_)
  refine ws (st_po (po_peq rfl rfl (by exact fc_ptr_61)) rfl rfl rfl ?_)
  refine ws (st_po (po_bf (po_move rfl) (rfl)) rfl rfl rfl ?_)
  refine ws (st_po (po_move rfl) rfl rfl rfl ?_)
  refine ws (st_po (po_nil rfl) rfl rfl rfl ?_)
  refine ws (st_po (po_faddr rfl (by exact fc_field_98_1_1)) rfl rfl rfl ?_)
  refine ws (st_po (po_load rfl (by exact fc_flat_27) (by rfl)) rfl rfl rfl ?_)
  refine ws (st_po (po_move rfl) rfl rfl rfl ?_)
  refine ws (st_call (co_fn rfl rfl) (grid_Cost f.m.g t ok.g.bytes) (by infer_instance) rfl rfl rfl ?_)
  rintro v13 _ ⟨rfl, rfl⟩
  try dsimp only [List.cons_append, List.nil_append, GridS.l, GridS.p, MeshS.l, MeshS.lF, MeshS.p, FinderS.l, FinderS.p, FinderS.lF, RouteS.l, RouteS.p]
  refine ws (st_po (po_eq rfl rfl) rfl rfl rfl ?_)
  refine ws (st_po (po_pick_f rfl rfl) rfl rfl rfl ?_)
  refine s_nil ?_
  refine at_then_wp ?_
  first | refine r_dec_f rfl (cost_ne ok.g ht) ?_ | refine r_nd_f rfl (cost_ne ok.g ht) ?_ | refine r_cond_f rfl (cost_ne ok.g ht) ?_
  refine r_skip ?_
  refine at_then_wp ?_
  refine r_seq ?_
  refine r_reg ?_
  refine ws (st_po (po_move rfl) rfl rfl rfl ?_)
  refine ws (st_po (po_nil rfl) rfl rfl rfl ?_)
  refine ws (st_po (po_faddr rfl (by exact fc_field_98_0_0)) rfl rfl rfl ?_)
  refine ws (st_po (po_load rfl (by exact fc_flat_63) (by rfl)) rfl rfl rfl ?_)
  refine ws (st_call (co_fn rfl rfl) (mesh_Rebuild f.m ok) (by infer_instance) rfl rfl rfl ?_)
  rintro v20 _ ⟨m', rfl, rfl, ok', hcl, hg, hb, hpv, hcnt⟩
  try dsimp only [List.cons_append, List.nil_append, GridS.l, GridS.p, MeshS.l, MeshS.lF, MeshS.p, FinderS.l, FinderS.p, FinderS.lF, RouteS.l, RouteS.p]
  have hfr := ok'.fresh (by rw [hg]; exact hcl)
  obtain ⟨mb, mg, mpv, mps, mcl, mcn⟩ := m'
  dsimp only at hb hg hpv hcl hcnt
  subst hb hg hpv
  refine s_nil ?_
  refine at_then_wp ?_
  refine r_seq ?_
  refine r_seq ?_
  refine r_ord [] _ [(0, 1), (1, 1), (2, 1), (3, 0), (4, 1), (5, 1), (6, 1), (7, 1), (8, 1), (9, 0), (10, 1), (11, 1), (12, 0), (13, 1), (14, 1), (15, 1), (16, 1), (17, 1), (18, 1), (19, 1), (20, 0), (21, 1), (22, 1), (23, 0), (24, 1), (25, 1), (26, 1), (27, 0), (28, 2), (29, 1), (30, 1)] fc_mixed (by kernel_rfl) (fun _ h => h) ?_
  refine o_fr rfl (po_move rfl) rfl rfl rfl ?_
  refine o_fr rfl (po_nil rfl) rfl rfl rfl ?_
  refine o_fr rfl (po_faddr rfl (by exact fc_field_98_2_2)) rfl rfl rfl ?_
  refine o_rd rfl (po_load rfl (by exact fc_flat_28) (by rfl)) (by first | exact fun _ h => h | exact ent) rfl rfl rfl ?_
  refine o_fr rfl (po_peq rfl rfl (by exact fc_ptr_28)) rfl rfl rfl ?_
  refine o_fr rfl (po_bt (po_move rfl) (rfl)) rfl rfl rfl ?_
  refine o_no rfl rfl rfl rfl ?_
  refine o_no rfl rfl rfl rfl ?_
  refine o_no rfl rfl rfl rfl ?_
  refine o_nor rfl (by first | exact fun _ h => h | exact ent) rfl rfl rfl ?_
  refine o_no rfl rfl rfl rfl ?_
  refine o_no rfl rfl rfl rfl ?_
  refine o_nor rfl (by first | exact fun _ h => h | exact ent) rfl rfl rfl ?_
  refine o_no rfl rfl rfl rfl ?_
  refine o_no rfl rfl rfl rfl ?_
  refine o_fr rfl (po_pick_t rfl rfl) rfl rfl rfl ?_
  refine o_fr rfl (po_move rfl) rfl rfl rfl ?_
  refine o_no rfl rfl rfl rfl ?_
  refine o_no rfl rfl rfl rfl ?_
  refine o_no rfl rfl rfl rfl ?_
  refine o_nor rfl (by first | exact fun _ h => h | exact ent) rfl rfl rfl ?_
  refine o_no rfl rfl rfl rfl ?_
  refine o_no rfl rfl rfl rfl ?_
  refine o_nor rfl (by first | exact fun _ h => h | exact ent) rfl rfl rfl ?_
  refine o_no rfl rfl rfl rfl ?_
  refine o_no rfl rfl rfl rfl ?_
  refine o_no rfl rfl rfl rfl ?_
  refine o_nor rfl (by first | exact fun _ h => h | exact ent) rfl rfl rfl ?_
  refine o_st rfl (st_no rfl rfl rfl ?_)
  refine ⟨fun _ => (by first | exact fun _ h => h | exact ent), ?_⟩
  refine o_no rfl rfl rfl rfl ?_
  refine o_fr rfl (po_pick_t rfl rfl) rfl rfl rfl ?_
  refine o_nil ?_
  refine at_then_wp ?_
  refine r_cond_t rfl rfl ?_
  refine r_seq ?_
  refine r_reg ?_
  refine ws (st_po (po_move rfl) rfl rfl rfl ?_)
  refine ws (st_po (po_move rfl) rfl rfl rfl ?_)
  refine ws (st_po (po_move rfl) rfl rfl rfl ?_)
  refine ws (st_call (co_fn rfl rfl) (route_search ⟨f.b, ⟨f.m.b, f.m.g, f.m.pv, mps, mcl, mcn⟩, f.count⟩ (.pointer none) hfr t ht) (by infer_instance) rfl rfl rfl ?_)
  rintro v55 _ ⟨r, rfl, rfl, hgo, hep, hdl, hdr, hsd, hB⟩
  try dsimp only [List.cons_append, List.nil_append, GridS.l, GridS.p, MeshS.l, MeshS.lF, MeshS.p, FinderS.l, FinderS.p, FinderS.lF, RouteS.l, RouteS.p]
  refine ws (st_po (po_nil rfl) rfl rfl rfl ?_)
  refine ws (st_po (po_faddr rfl (by exact fc_field_98_2_2)) rfl rfl rfl ?_)
  refine ws (st_so (so_store1 rfl rfl (by exact fc_flat_28) rfl) rfl rfl ?_)
  refine s_nil ?_
  refine at_then_wp ?_
  refine r_reg ?_
  refine ws (st_po (po_move rfl) rfl rfl rfl ?_)
  refine ws (st_po (po_move rfl) rfl rfl rfl ?_)
  refine ws (st_po (po_nil rfl) rfl rfl rfl ?_)
  refine ws (st_po (po_faddr rfl (by exact fc_field_98_3_3)) rfl rfl rfl ?_)
  refine ws (st_po (po_load rfl (by exact fc_flat_96) (by rfl)) rfl rfl rfl ?_)
  refine ws (st_call (co_fn rfl rfl) (tally_Add f.count (by omega) (by omega)) (by infer_instance) rfl rfl rfl ?_)
  rintro v63 _ ⟨⟨n2, rfl, hn2⟩, rfl⟩
  try dsimp only [List.cons_append, List.nil_append, GridS.l, GridS.p, MeshS.l, MeshS.lF, MeshS.p, FinderS.l, FinderS.p, FinderS.lF, RouteS.l, RouteS.p]
  refine ws (st_po (po_nil rfl) rfl rfl rfl ?_)
  refine ws (st_po (po_faddr rfl (by exact fc_field_98_3_3)) rfl rfl rfl ?_)
  refine ws (st_so (so_store1 rfl rfl (by exact fc_flat_96) rfl) rfl rfl ?_)
  refine s_nil ?_
  refine at_then_wp ?_
  refine r_seq ?_
  refine r_reg ?_
  refine ws (st_po (po_move rfl) rfl rfl rfl ?_)
  refine ws (st_po (po_nil rfl) rfl rfl rfl ?_)
  refine ws (st_po (po_faddr rfl (by exact fc_field_98_2_2)) rfl rfl rfl ?_)
  refine ws (st_po (po_load rfl (by exact fc_flat_28) (by rfl)) rfl rfl rfl ?_)
  refine ws (st_po (po_assign rfl) rfl rfl rfl ?_)
  refine s_nil ?_
  refine at_then_wp ?_
  refine r_ret ?_
  subst hgo
  refine at_ret1 rfl (rv_tmp rfl) ⟨_, ⟨⟨f.b, ⟨f.m.b, f.m.g, f.m.pv, mps, mcl, mcn⟩, n2⟩, r, rfl, rfl, rfl, hep, route_ok (m := ⟨f.m.b, f.m.g, f.m.pv, mps, mcl, mcn⟩) hfr ht hdl hdr hsd hB, ok', rfl, rfl, rfl, hcl, rfl, hcnt, hn2⟩, ?_⟩
  try dsimp only [List.cons_append, List.nil_append, GridS.l, GridS.p, MeshS.l, MeshS.lF, MeshS.p, FinderS.l, FinderS.p, FinderS.lF, RouteS.l, RouteS.p]
  exact ent
end Hd
end
section
namespace Hd
/-! ## what a sector is told -/
def sideN (w h a b : Int) : Int := if IsC w h a ∧ IsC w h b then match (List.range 5).find? (fun (s : Nat) => decide (stepN w h a s = b)) with | some s => (s : Int) | none => 5 else 5
theorem find_first {p : Nat → Bool} {n k : Nat} (hk : k < n) (h : p k = true) (hn : ∀ j, j < k → p j = false) : (List.range n).find? p = some k := by
  rw [List.find?_eq_some_iff_getElem]
  refine ⟨h, k, by simpa using hk, by simp, fun j hj => ?_⟩
  simp only [List.getElem_range]
  rw [hn j hj]; rfl
theorem find_none {p : Nat → Bool} {n : Nat} (hn : ∀ j, j < n → p j = false) : (List.range n).find? p = none := by
  rw [List.find?_eq_none]
  intro j hj
  rw [hn j (List.mem_range.1 hj)]; decide
theorem step_inj {w h c s s' : Int} (hc : IsC w h c) (hs : 0 ≤ s ∧ s ≤ 4) (hs' : 0 ≤ s' ∧ s' ≤ 4) (h0 : 0 ≤ stepN w h c s) (e : stepN w h c s = stepN w h c s') : s = s' := by
  have h1 := (step_ok hc hs.1 hs.2).2 h0
  have h2 := (step_ok hc hs'.1 hs'.2).2 (by omega)
  rw [← e] at h2
  have a1 : dx s = dx s' := by omega
  have a2 : dy s = dy s' := by omega
  unfold dx at a1
  unfold dy at a2
  split at a1 <;> split at a1 <;> split at a2 <;> split at a2 <;> (repeat' split at a1) <;> (repeat' split at a2) <;> omega
theorem side_step {w h c s : Int} (hc : IsC w h c) (hs : 0 ≤ s ∧ s ≤ 4) (h0 : 0 ≤ stepN w h c s) : sideN w h c (stepN w h c s) = s := by
  have h1 := ((step_ok hc hs.1 hs.2).2 h0).1
  unfold sideN
  rw [if_pos ⟨hc, h1⟩]
  cases e : (List.range 5).find? (fun (x : Nat) => decide (stepN w h c x = stepN w h c s)) with
  | none =>
    rw [List.find?_eq_none] at e
    have := e s.toNat (List.mem_range.2 (by omega))
    rw [Int.toNat_of_nonneg hs.1] at this
    exact absurd (decide_eq_true rfl) this
  | some x =>
    have h2 := List.find?_some e
    have h3 := List.mem_range.1 (List.mem_of_find?_eq_some e)
    simp only [decide_eq_true_eq] at h2
    show (x : Int) = s
    exact step_inj hc ⟨by omega, by omega⟩ hs (by rw [h2]; exact h0) h2
def seedE (w h : Int) (A : Int → Int) (c : Int) (e : Edg) : List Seed := if A e.to ≠ INF then [⟨localN w h c, sideN w h c e.to, e.cost + A e.to⟩] else []
def seedC (w h : Int) (C : List Int) (A : Int → Int) (c : Int) : List Seed := (crossN w h C c).flatMap (seedE w h A c)
def seedsO (w h : Int) (C : List Int) (A : Int → Int) (i : Int) : List Seed := (nodesN w h C i).flatMap (seedC w h C A)
def seedsG (w h : Int) (C : List Int) (A : Int → Int) (t i : Int) : List Seed := seedsO w h C A i ++ if sectorN w h t = i ∧ costN C t ≠ 255 then [⟨localN w h t, 4, 0⟩] else []
theorem flat_snoc {α β : Type} (f : α → List β) (l : List α) (k : Nat) (h : k < l.length) : (l.take (k + 1)).flatMap f = (l.take k).flatMap f ++ f l[k] := by
  rw [take_snoc l k h, List.flatMap_append]; simp
theorem flat_le {α β : Type} (f : α → List β) (K : Nat) (hf : ∀ a, (f a).length ≤ K) : ∀ l : List α, (l.flatMap f).length ≤ K * l.length
  | [] => by simp
  | a :: l => by
    rw [List.flatMap_cons, List.length_append, List.length_cons, Nat.mul_succ]
    have := hf a
    have := flat_le f K hf l
    omega
theorem seedE_len (w h : Int) (A : Int → Int) (c : Int) (e : Edg) : (seedE w h A c e).length ≤ 1 := by unfold seedE; split <;> simp
theorem crossN_len (w h : Int) (C : List Int) (c : Int) : (crossN w h C c).length ≤ 4 := by
  unfold crossN; split
  · exact crossTo_len w h C c 4
  · simp
theorem seedC_len (w h : Int) (C : List Int) (A : Int → Int) (c : Int) : (seedC w h C A c).length ≤ 4 := by
  have := flat_le (seedE w h A c) 1 (seedE_len w h A c) (crossN w h C c)
  have := crossN_len w h C c
  unfold seedC; omega
theorem seedsO_len (w h : Int) (C : List Int) (A : Int → Int) (i : Int) : (seedsO w h C A i).length ≤ 1024 := by
  have := flat_le (seedC w h C A) 4 (seedC_len w h C A) (nodesN w h C i)
  have := nodes_len w h C i
  unfold seedsO; omega
theorem seedsG_len (w h : Int) (C : List Int) (A : Int → Int) (t i : Int) : (seedsG w h C A t i).length ≤ 1025 := by
  have := seedsO_len w h C A i
  unfold seedsG
  rw [List.length_append]
  split <;> simp <;> omega
theorem mem_cross {g : GridS} (ok : GridOk g) {c : Int} (hc : OpC g.w g.h g.c c) {e : Edg} : e ∈ crossN g.w g.h g.c c ↔ ∃ k : Int, (0 ≤ k ∧ k < 4) ∧ OpC g.w g.h g.c (stepN g.w g.h c k) ∧ sectorN g.w g.h (stepN g.w g.h c k) ≠ sectorN g.w g.h c ∧ e = ⟨stepN g.w g.h c k, gAt g.c (stepN g.w g.h c k)⟩ := by
  unfold crossN crossTo
  rw [if_pos ((open_iff ok).2 hc.1), List.mem_flatMap]
  constructor
  · rintro ⟨j, hj, he⟩
    have hj := List.mem_range.1 hj
    split at he
    · rename_i h1
      have h2 := over_ge.1 h1.1
      have h3 := over_eq h1.1
      have h4 := (open_iff ok).1 h1.2
      rw [List.mem_singleton] at he
      rw [h3] at h4 he
      have h5 := opn_isC ok h4
      rw [cost_opn ok h5] at he
      exact ⟨j, by omega, ⟨h4, h5⟩, h2.2, he⟩
    · cases he
  · rintro ⟨k, hk, h1, h2, h3⟩
    refine ⟨k.toNat, List.mem_range.2 (by omega), ?_⟩
    rw [Int.toNat_of_nonneg hk.1]
    have h4 : 0 ≤ overN g.w g.h c k := over_ge.2 ⟨h1.1.1, h2⟩
    have h5 := over_eq h4
    rw [if_pos ⟨h4, by rw [h5]; exact (open_iff ok).2 h1.1⟩, h5, List.mem_singleton, cost_opn ok h1.2]
    exact h3
/-- what the border tells -/
theorem mem_seedsO {g : GridS} (ok : GridOk g) {A : Int → Int} {i : Int} (hi : IsS g.w g.h i) {s : Seed} : s ∈ seedsO g.w g.h g.c A i ↔
    ∃ c k : Int, OpC g.w g.h g.c c ∧ sectorN g.w g.h c = i ∧ (0 ≤ k ∧ k < 4) ∧ OpC g.w g.h g.c (stepN g.w g.h c k) ∧ sectorN g.w g.h (stepN g.w g.h c k) ≠ i ∧ A (stepN g.w g.h c k) ≠ INF ∧ s = ⟨localN g.w g.h c, k, gAt g.c (stepN g.w g.h c k) + A (stepN g.w g.h c k)⟩ := by
  unfold seedsO seedC
  rw [List.mem_flatMap]
  constructor
  · rintro ⟨c, hc, hs⟩
    obtain ⟨⟨hco, _⟩, hci⟩ := (mem_nodes ok hi).1 hc
    rw [List.mem_flatMap] at hs
    obtain ⟨e, he, hs⟩ := hs
    obtain ⟨k, hk, h1, h2, rfl⟩ := (mem_cross ok hco).1 he
    unfold seedE at hs
    dsimp only at hs
    split at hs
    · rename_i h3
      rw [List.mem_singleton, side_step hco.2 ⟨hk.1, by omega⟩ h1.1.1] at hs
      exact ⟨c, k, hco, hci, hk, h1, by rw [← hci]; exact h2, h3, hs⟩
    · cases hs
  · rintro ⟨c, k, hc, hci, hk, h1, h2, h3, rfl⟩
    have hst : 0 ≤ stepN g.w g.h c k := h1.1.1
    refine ⟨c, (mem_nodes ok hi).2 ⟨⟨hc, k, hk, hst, by rw [hci]; exact h2⟩, hci⟩, ?_⟩
    rw [List.mem_flatMap]
    refine ⟨_, (mem_cross ok hc).2 ⟨k, hk, h1, by rw [hci]; exact h2, rfl⟩, ?_⟩
    unfold seedE
    dsimp only
    rw [if_pos h3, side_step hc.2 ⟨hk.1, by omega⟩ hst]
    exact List.mem_singleton.2 rfl
/-- cell and side are those of one seed alone -/
theorem seedsO_pw {g : GridS} (ok : GridOk g) {A : Int → Int} {i : Int} (hi : IsS g.w g.h i) : (seedsO g.w g.h g.c A i).Pairwise fun x y => ¬ (x.cell = y.cell ∧ x.side = y.side) := by
  have hside : ∀ c, c ∈ nodesN g.w g.h g.c i → ∀ x, x ∈ seedC g.w g.h g.c A c → x.cell = localN g.w g.h c := by
    intro c _ x hx
    unfold seedC at hx
    obtain ⟨e, _, hx⟩ := List.mem_flatMap.1 hx
    unfold seedE at hx
    split at hx
    · rw [List.mem_singleton] at hx; rw [hx]
    · cases hx
  unfold seedsO
  rw [List.pairwise_flatMap]
  constructor
  · intro c hc
    obtain ⟨⟨hco, _⟩, hci⟩ := (mem_nodes ok hi).1 hc
    unfold seedC crossN
    rw [if_pos ((open_iff ok).2 hco.1)]
    unfold crossTo
    rw [List.flatMap_assoc, List.pairwise_flatMap]
    have hsd : ∀ j : Nat, j < 4 → ∀ x, x ∈ (if 0 ≤ overN g.w g.h c j ∧ openN g.c (overN g.w g.h c j) then [(⟨overN g.w g.h c j, costN g.c (overN g.w g.h c j)⟩ : Edg)] else []).flatMap (seedE g.w g.h A c) → x.side = j := by
      intro j hj x hx
      split at hx
      · rename_i h1
        rw [List.flatMap_cons, List.flatMap_nil, List.append_nil] at hx
        unfold seedE at hx
        dsimp only at hx
        split at hx
        · rw [List.mem_singleton, over_eq h1.1, side_step hco.2 (s := j) ⟨by omega, by omega⟩ (over_ge.1 h1.1).1] at hx
          rw [hx]
        · cases hx
      · cases hx
    constructor
    · intro j hj
      split
      · rw [List.flatMap_cons, List.flatMap_nil, List.append_nil]; unfold seedE; split <;> simp
      · simp
    · refine List.Pairwise.imp_of_mem (fun {a b} ha hb hab x hx y hy h => ?_) (List.pairwise_lt_range (n := 4))
      have h1 := hsd a (List.mem_range.1 ha) x hx
      have h2 := hsd b (List.mem_range.1 hb) y hy
      have := h.2
      omega
  · have hr := nodes_rising (c := g.c) hi
    rw [List.pairwise_iff_getElem]
    intro a b ha hb hab x hx y hy h
    have h1 := hside _ (List.getElem_mem ha) x hx
    have h2 := hside _ (List.getElem_mem hb) y hy
    have m1 := (mem_nodes ok hi).1 (List.getElem_mem ha)
    have m2 := (mem_nodes ok hi).1 (List.getElem_mem hb)
    have g1 := global_local m1.1.1.2
    have g2 := global_local m2.1.1.2
    have := hr a b ha hb hab
    rw [m1.2, ← h1, h.1, h2] at g1
    rw [m2.2] at g2
    omega
theorem seedsG_pw {g : GridS} (ok : GridOk g) {A : Int → Int} {t i : Int} (hi : IsS g.w g.h i) : (seedsG g.w g.h g.c A t i).Pairwise fun x y => ¬ (x.cell = y.cell ∧ x.side = y.side) := by
  unfold seedsG
  split
  · rw [List.pairwise_append]
    refine ⟨seedsO_pw ok hi, by simp, fun x hx y hy h => ?_⟩
    rw [List.mem_singleton] at hy
    obtain ⟨c, k, _, _, hk, _, _, _, rfl⟩ := (mem_seedsO ok hi).1 hx
    have := h.2
    rw [hy] at this
    dsimp only at this; omega
  · rw [List.append_nil]; exact seedsO_pw ok hi
theorem seedsG_nodup {g : GridS} (ok : GridOk g) {A : Int → Int} {t i : Int} (hi : IsS g.w g.h i) : (seedsG g.w g.h g.c A t i).Nodup :=
  List.Pairwise.imp (fun {x y} h e => h (by rw [e]; exact ⟨rfl, rfl⟩)) (seedsG_pw ok hi)
theorem nodes_none {w h : Int} {C : List Int} {i : Int} (hi : ¬ IsS w h i) : nodesN w h C i = [] := by
  unfold nodesN cellsN cellsTo sizeN
  rw [if_neg hi]; rfl
theorem seedsG_none {w h : Int} {C : List Int} {A : Int → Int} {t i : Int} (ht : IsC w h t) (hi : ¬ IsS w h i) : seedsG w h C A t i = [] := by
  unfold seedsG seedsO
  rw [nodes_none hi, if_neg (fun h => hi (by rw [← h.1]; exact (sector_lt ht).1))]; rfl
end Hd
end
section
namespace Hd
set_option maxRecDepth 100000
open Go
abbrev GridS.lT (s : GridS) (T : List HP) : List HP := Blk s.b 81 [.int .i64 s.w, .int .i64 s.h, s.cv, .int .i64 s.ep, s.vv] :: Sl eB s.cv s.c :: Sl eL s.vv s.vs :: T
abbrev RouteS.lT (r : RouteS) (T : List HP) : List HP := Blk r.b 84 [.int .i64 r.goal, .int .i64 r.ep, r.dv] :: Sl eW r.dv r.dist :: T

theorem where_Side (w h a b : Int) : Spec PP 44 #[.int .i64 w, .int .i64 h, .int .i64 a, .int .i64 b] [] (fun v M => v = .int .i64 (sideN w h a b) ∧ M = []) := by
  refine spec_of (Go.Proofs.Tryz.func44) rfl rfl rfl (by exact fc_enters_44) ?_
  intro g F
  try dsimp only [List.cons_append, List.nil_append, GridS.l, GridS.p, RouteS.l, RouteS.p, GridS.lT, RouteS.lT]
  by_cases ha : IsC w h a
  · skip
    refine r_seq ?_
    refine r_reg ?_
    refine ws (st_po (po_assign rfl) rfl rfl rfl ?_)
    refine s_nil ?_
    refine at_then_wp ?_
    refine r_seq ?_
    refine r_seq ?_
    refine r_reg ?_
    refine ws (st_po (po_move rfl) rfl rfl rfl ?_)
    refine ws (st_po (po_move rfl) rfl rfl rfl ?_)
    refine ws (st_po (po_move rfl) rfl rfl rfl ?_)
    refine ws (st_call (co_fn rfl rfl) (where_is w h a) (by infer_instance) rfl rfl rfl ?_)
    rintro v13 _ ⟨rfl, rfl⟩
    try dsimp only [List.cons_append, List.nil_append, GridS.l, GridS.p, RouteS.l, RouteS.p, GridS.lT, RouteS.lT]
    refine ws (st_po (po_not rfl) rfl rfl rfl ?_)
    refine ws (st_po (po_bf (po_move rfl) (by simp [ha])) rfl rfl rfl ?_)
    refine ws (st_po (po_move rfl) rfl rfl rfl ?_)
    refine ws (st_po (po_move rfl) rfl rfl rfl ?_)
    refine ws (st_po (po_move rfl) rfl rfl rfl ?_)
    refine ws (st_call (co_fn rfl rfl) (where_is w h b) (by infer_instance) rfl rfl rfl ?_)
    rintro v19 _ ⟨rfl, rfl⟩
    try dsimp only [List.cons_append, List.nil_append, GridS.l, GridS.p, RouteS.l, RouteS.p, GridS.lT, RouteS.lT]
    refine ws (st_po (po_not rfl) rfl rfl rfl ?_)
    refine ws (st_po (po_pick_f rfl rfl) rfl rfl rfl ?_)
    refine s_nil ?_
    refine at_then_wp ?_
    first | refine r_cond_not rfl ?_ ?_ | refine r_cond_dec rfl ?_ ?_ | refine r_cond rfl ?_ ?_
    · intro hb
      refine r_seq ?_
      refine r_reg ?_
      refine ws (st_po (po_assign rfl) rfl rfl rfl ?_)
      refine s_nil ?_
      refine at_then_wp ?_
      refine r_ret ?_
      refine at_then_ret ?_
      refine at_ret1 rfl (rv_tmp rfl) ⟨_, ⟨by rw [sideN, if_neg (fun k => hb k.2)], rfl⟩, ?_⟩
      try dsimp only [List.cons_append, List.nil_append, GridS.l, GridS.p, RouteS.l, RouteS.p, GridS.lT, RouteS.lT]
      exact ent
    · intro hb
      refine r_skip ?_
      refine at_then_wp ?_
      refine r_seq ?_
      refine r_seq ?_
      refine r_reg ?_
      refine ws (st_po (po_assign rfl) rfl rfl rfl ?_)
      refine s_nil ?_
      refine at_then_wp ?_
      refine r_block ?_
      refine r_loop (S := Nat) (fun k => [(9, .int .i64 k)]) [(0, _), (1, _), (2, _), (3, _)] (fun k => [F]) (fun k => k ≤ 5 ∧ ∀ j : Nat, j < k → stepN w h a j ≠ b) (fun k => 5 - k) (0) (And.intro rfl (And.intro rfl (And.intro rfl (And.intro rfl (trivial))))) (And.intro rfl (trivial)) (⟨by omega, fun j h => by omega⟩) ent ?_
      rintro k ⟨hk, hne⟩
      try dsimp only [List.cons_append, List.nil_append, GridS.l, GridS.p, RouteS.l, RouteS.p, GridS.lT, RouteS.lT]
      refine r_seq ?_
      refine r_seq ?_
      refine r_reg ?_
      refine ws (st_po (po_move rfl) rfl rfl rfl ?_)
      refine ws (st_po (po_le rfl rfl) rfl rfl rfl ?_)
      refine s_nil ?_
      refine at_then_wp ?_
      first | refine r_cond_not rfl ?_ ?_ | refine r_cond_dec rfl ?_ ?_ | refine r_cond rfl ?_ ?_
      · intro hk4
        refine r_skip ?_
        refine at_then_wp ?_
        refine r_seq ?_
        refine r_block ?_
        refine r_seq ?_
        refine r_reg ?_
        refine ws (st_po (po_move rfl) rfl rfl rfl ?_)
        refine ws (st_po (po_move rfl) rfl rfl rfl ?_)
        refine ws (st_po (po_move rfl) rfl rfl rfl ?_)
        refine ws (st_po (po_move rfl) rfl rfl rfl ?_)
        refine ws (st_call (co_fn rfl rfl) (where_Step w h a k) (by infer_instance) rfl rfl rfl ?_)
        rintro v30 _ ⟨rfl, rfl⟩
        try dsimp only [List.cons_append, List.nil_append, GridS.l, GridS.p, RouteS.l, RouteS.p, GridS.lT, RouteS.lT]
        refine ws (st_po (po_move rfl) rfl rfl rfl ?_)
        refine ws (st_po (po_eq rfl rfl) rfl rfl rfl ?_)
        refine s_nil ?_
        refine at_then_wp ?_
        first | refine r_cond_not rfl ?_ ?_ | refine r_cond_dec rfl ?_ ?_ | refine r_cond rfl ?_ ?_
        · intro heq
          refine r_seq ?_
          refine r_reg ?_
          refine ws (st_po (po_move rfl) rfl rfl rfl ?_)
          refine ws (st_po (po_assign rfl) rfl rfl rfl ?_)
          refine s_nil ?_
          refine at_then_wp ?_
          refine r_ret ?_
          refine at_block_ret ?_
          refine at_then_ret ?_
          refine at_then_ret ?_
          refine at_block_ret ?_
          refine at_then_ret ?_
          refine at_ret1 rfl (rv_tmp rfl) ⟨_, ⟨by rw [sideN, if_pos ⟨ha, hb⟩, find_first (k := k) (by omega) (decide_eq_true heq) (fun j hj => decide_eq_false (hne j hj))], rfl⟩, ?_⟩
          try dsimp only [List.cons_append, List.nil_append, GridS.l, GridS.p, RouteS.l, RouteS.p, GridS.lT, RouteS.lT]
          exact ent
        · intro heq
          refine r_skip ?_
          refine at_block_normal ?_
          refine at_then_wp ?_
          refine r_reg ?_
          refine ws (st_po (po_move rfl) rfl rfl rfl ?_)
          refine ws (st_po (po_add' rfl rfl (by omega) (by omega)) rfl rfl rfl ?_)
          refine ws (st_po (po_assign rfl) rfl rfl rfl ?_)
          refine s_nil ?_
          exact at_again (k + 1) (And.intro rfl (trivial)) (And.intro rfl (And.intro rfl (And.intro rfl (And.intro rfl (trivial))))) (⟨by omega, fun j hj => by by_cases e : j = k; (subst e; exact heq); exact hne j (by omega)⟩) (by omega) ent
      · intro hk4
        refine r_exit ?_
        refine at_then_exit ?_
        refine at_then_exit ?_
        refine at_block_here ?_
        refine at_then_wp ?_
        refine r_seq ?_
        refine r_reg ?_
        refine ws (st_po (po_assign rfl) rfl rfl rfl ?_)
        refine s_nil ?_
        refine at_then_wp ?_
        refine r_ret ?_
        refine at_ret1 rfl (rv_tmp rfl) ⟨_, ⟨by rw [sideN, if_pos ⟨ha, hb⟩, find_none (fun j hj => decide_eq_false (hne j (by omega)))], rfl⟩, ?_⟩
        try dsimp only [List.cons_append, List.nil_append, GridS.l, GridS.p, RouteS.l, RouteS.p, GridS.lT, RouteS.lT]
        exact ent
  · skip
    refine r_seq ?_
    refine r_reg ?_
    refine ws (st_po (po_assign rfl) rfl rfl rfl ?_)
    refine s_nil ?_
    refine at_then_wp ?_
    refine r_seq ?_
    refine r_seq ?_
    refine r_reg ?_
    refine ws (st_po (po_move rfl) rfl rfl rfl ?_)
    refine ws (st_po (po_move rfl) rfl rfl rfl ?_)
    refine ws (st_po (po_move rfl) rfl rfl rfl ?_)
    refine ws (st_call (co_fn rfl rfl) (where_is w h a) (by infer_instance) rfl rfl rfl ?_)
    rintro v13 _ ⟨rfl, rfl⟩
    try dsimp only [List.cons_append, List.nil_append, GridS.l, GridS.p, RouteS.l, RouteS.p, GridS.lT, RouteS.lT]
    refine ws (st_po (po_not rfl) rfl rfl rfl ?_)
    refine ws (st_po (po_bt (po_move rfl) (by simp [ha])) rfl rfl rfl ?_)
    refine ws (st_no rfl rfl rfl ?_)
    refine ws (st_no rfl rfl rfl ?_)
    refine ws (st_no rfl rfl rfl ?_)
    refine ws (st_no rfl rfl rfl ?_)
    refine ws (st_no rfl rfl rfl ?_)
    refine ws (st_po (po_pick_t rfl rfl) rfl rfl rfl ?_)
    refine s_nil ?_
    refine at_then_wp ?_
    refine r_cond_t rfl rfl ?_
    refine r_seq ?_
    refine r_reg ?_
    refine ws (st_po (po_assign rfl) rfl rfl rfl ?_)
    refine s_nil ?_
    refine at_then_wp ?_
    refine r_ret ?_
    refine at_then_ret ?_
    refine at_ret1 rfl (rv_tmp rfl) ⟨_, ⟨by rw [sideN, if_neg (fun k => ha k.1)], rfl⟩, ?_⟩
    try dsimp only [List.cons_append, List.nil_append, GridS.l, GridS.p, RouteS.l, RouteS.p, GridS.lT, RouteS.lT]
    exact ent

theorem cross_cost {s : GridS} (ok : GridOk s) {c : Int} {e : Edg} (h : e ∈ crossN s.w s.h s.c c) : 0 ≤ e.cost ∧ e.cost ≤ 255 := by
  unfold crossN at h
  split at h
  · unfold crossTo at h
    obtain ⟨j, _, h⟩ := List.mem_flatMap.1 h
    split at h
    · rw [List.mem_singleton] at h
      rename_i ho
      have := (open_iff ok).1 ho.2
      have := opn_cost ok this
      rw [h]; dsimp only; rw [cost_opn ok (opn_isC ok ‹_›)]; omega
    · cases h
  · cases h
theorem atN_rng (r : RouteS) (hr : ∀ x ∈ r.dist, 0 ≤ x ∧ x ≤ 2147483647) (c : Int) : 0 ≤ atN r c ∧ (atN r c = 1099511627776 ∨ atN r c < 2147483647) := by
  unfold atN
  split
  · rename_i h
    have := hr _ (List.getElem_mem (show c.toNat < r.dist.length by omega))
    rw [← gAt_get] at this
    omega
  · omega
theorem inject_Seeds (s : GridS) (ok : GridOk s) (r : RouteS) (hr : ∀ x ∈ r.dist, 0 ≤ x ∧ x ≤ 2147483647) (hep : r.ep = s.ep) (ht : IsC s.w s.h r.goal) (i : Int) :
    Spec PP 16 #[s.p, r.p, .int .i64 i] (s.lT r.l) (fun v M => ∃ ys, M = s.l ++ r.l ++ [Sl eS v ys] ∧ ys.Perm (seedsG s.w s.h s.c (atN r) r.goal i) ∧ ys.Pairwise fun x y => ordI x y < 0) := by
  have hnl := nodes_len s.w s.h s.c i
  have hnd : (seedsG s.w s.h s.c (atN r) r.goal i).Nodup := by
    by_cases hi : IsS s.w s.h i
    · exact seedsG_nodup ok hi
    · rw [seedsG_none ht hi]; exact .nil
  have hGl := seedsG_len s.w s.h s.c (atN r) r.goal i
  refine spec_of (Go.Proofs.Tryz.func16) rfl rfl rfl (by exact fc_enters_16) ?_
  intro g F
  try dsimp only [List.cons_append, List.nil_append, GridS.l, GridS.p, RouteS.l, RouteS.p, GridS.lT, RouteS.lT]
  refine r_seq ?_
  refine r_reg ?_
  refine ws (st_po (po_assign rfl) rfl rfl rfl ?_)
  refine s_nil ?_
  refine at_then_wp ?_
  refine r_seq ?_
  refine r_reg ?_
  refine ws (st_po (po_move rfl) rfl rfl rfl ?_)
  refine ws (st_call (co_fn rfl rfl) (grid_Size s) (by infer_instance) rfl rfl rfl ?_)
  rintro v18 _ ⟨rfl, rfl⟩
  try dsimp only [List.cons_append, List.nil_append, GridS.l, GridS.p, RouteS.l, RouteS.p, GridS.lT, RouteS.lT]
  refine ws (st_po (po_move rfl) rfl rfl rfl ?_)
  refine ws (st_po (po_extract rfl rfl) rfl rfl rfl ?_)
  refine ws (st_po (po_extract rfl rfl) rfl rfl rfl ?_)
  refine ws (st_po (po_assign rfl) rfl rfl rfl ?_)
  refine ws (st_po (po_assign rfl) rfl rfl rfl ?_)
  refine s_nil ?_
  refine at_then_wp ?_
  refine r_seq ?_
  refine r_seq ?_
  refine r_reg ?_
  refine ws (st_po (po_move rfl) rfl rfl rfl ?_)
  refine ws (st_po (po_peq rfl rfl (by exact fc_ptr_28)) rfl rfl rfl ?_)
  refine ws (st_po (po_bf (po_move rfl) (rfl)) rfl rfl rfl ?_)
  refine ws (st_po (po_move rfl) rfl rfl rfl ?_)
  refine ws (st_call (co_fn rfl rfl) (route_Epoch r) (by infer_instance) rfl rfl rfl ?_)
  rintro v25 _ ⟨rfl, rfl⟩
  try dsimp only [List.cons_append, List.nil_append, GridS.l, GridS.p, RouteS.l, RouteS.p, GridS.lT, RouteS.lT]
  refine ws (st_po (po_move rfl) rfl rfl rfl ?_)
  refine ws (st_call (co_fn rfl rfl) (grid_Epoch s) (by infer_instance) rfl rfl rfl ?_)
  rintro v27 _ ⟨rfl, rfl⟩
  try dsimp only [List.cons_append, List.nil_append, GridS.l, GridS.p, RouteS.l, RouteS.p, GridS.lT, RouteS.lT]
  refine ws (st_po (po_ne rfl rfl) rfl rfl rfl ?_)
  refine ws (st_po (po_pick_f rfl rfl) rfl rfl rfl ?_)
  refine s_nil ?_
  refine at_then_wp ?_
  first | refine r_dec_f rfl (by simp [hep]) ?_ | refine r_nd_f rfl (by simp [hep]) ?_ | refine r_cond_f rfl (by simp [hep]) ?_
  refine r_skip ?_
  refine at_then_wp ?_
  refine r_seq ?_
  refine r_reg ?_
  refine ws (st_po (po_assign rfl) rfl rfl rfl ?_)
  refine s_nil ?_
  refine at_then_wp ?_
  refine r_seq ?_
  refine r_seq ?_
  refine r_reg ?_
  refine ws (st_po (po_move rfl) rfl rfl rfl ?_)
  refine ws (st_po (po_move rfl) rfl rfl rfl ?_)
  refine ws (st_call (co_fn rfl rfl) (border_Nodes s i ok.bytes) (by infer_instance) rfl rfl rfl ?_)
  rintro v32 _ rfl
  try dsimp only [List.cons_append, List.nil_append, GridS.l, GridS.p, RouteS.l, RouteS.p, GridS.lT, RouteS.lT]
  refine ws (st_po (po_len rfl (by exact fc_slice_35_3_1)) rfl rfl rfl ?_)
  refine ws (st_po (po_move rfl) rfl rfl rfl ?_)
  refine s_nil ?_
  refine at_then_wp ?_
  refine r_block ?_
  refine r_loop (S := Nat × Value × List Seed) (fun ⟨k, ov, xs⟩ => [(9, ov), (34, .int .i64 k)]) [(0, _), (1, _), (2, _), (7, _), (8, _), (32, _), (33, _)] (fun ⟨k, ov, xs⟩ => Sl eI v32 (nodesN s.w s.h s.c i) :: Sl eS ov xs :: s.lT (r.lT [F])) (fun ⟨k, ov, xs⟩ => k ≤ (nodesN s.w s.h s.c i).length ∧ xs = ((nodesN s.w s.h s.c i).take k).flatMap (seedC s.w s.h s.c (atN r))) (fun ⟨k, ov, xs⟩ => (nodesN s.w s.h s.c i).length - k) ((0, .slice none 0 0, [])) (And.intro rfl (And.intro rfl (And.intro rfl (And.intro rfl (And.intro rfl (And.intro rfl (And.intro rfl (trivial)))))))) (And.intro rfl (And.intro rfl (trivial))) (⟨by omega, rfl⟩) ent ?_
  rintro ⟨k, ov, xs⟩ ⟨hk, hxs⟩
  try dsimp only [List.cons_append, List.nil_append, GridS.l, GridS.p, RouteS.l, RouteS.p, GridS.lT, RouteS.lT]
  refine r_seq ?_
  refine r_reg ?_
  refine ws (st_po (po_lt rfl rfl) rfl rfl rfl ?_)
  refine s_nil ?_
  refine at_then_wp ?_
  refine r_seq ?_
  first | refine r_cond_not rfl ?_ ?_ | refine r_cond_dec rfl ?_ ?_ | refine r_cond rfl ?_ ?_
  · intro hlt
    have hkl : k < (nodesN s.w s.h s.c i).length := by omega
    obtain ⟨c, hce⟩ : ∃ c, (nodesN s.w s.h s.c i)[(k : Int).toNat]'(by omega) = c := ⟨_, rfl⟩
    have hce' : (nodesN s.w s.h s.c i)[k] = c := hce
    have hxl : xs.length ≤ 4 * k := by rw [hxs]; have := flat_le (seedC s.w s.h s.c (atN r)) 4 (seedC_len s.w s.h s.c (atN r)) ((nodesN s.w s.h s.c i).take k); rw [List.length_take] at this; omega
    refine r_skip ?_
    refine at_then_wp ?_
    refine r_seq ?_
    refine r_block ?_
    refine r_seq ?_
    refine r_reg ?_
    refine ws (st_po (po_iaddr rfl rfl (by exact fc_slice_35_3_1) (by first | omega | (simp only [List.length_nil, List.length_cons, List.length_append, List.length_replicate, List.length_set, List.length_map, List.length_take, List.length_drop]; omega)) (by first | omega | (simp only [List.length_nil, List.length_cons, List.length_append, List.length_replicate, List.length_set, List.length_map, List.length_take, List.length_drop]; omega))) rfl rfl rfl ?_)
    refine ws (st_po (po_load_sl rfl (List.getElem?_eq_getElem (by first | omega | (simp only [List.length_nil, List.length_cons, List.length_append, List.length_replicate, List.length_set, List.length_map, List.length_take, List.length_drop]; omega))) (by exact fc_flat_3) (by rfl)) rfl rfl rfl ?_)
    refine ws (st_po (po_assign rfl) rfl rfl rfl ?_)
    refine s_nil ?_
    refine at_then_wp ?_
    refine r_seq ?_
    rw [hce]
    refine r_reg ?_
    refine ws (st_po (po_move rfl) rfl rfl rfl ?_)
    refine ws (st_po (po_move rfl) rfl rfl rfl ?_)
    refine ws (st_call (co_fn rfl rfl) (border_Cross s c ok.bytes) (by infer_instance) rfl rfl rfl ?_)
    rintro v40 _ rfl
    try dsimp only [List.cons_append, List.nil_append, GridS.l, GridS.p, RouteS.l, RouteS.p, GridS.lT, RouteS.lT]
    have hcl := crossN_len s.w s.h s.c c
    refine ws (st_po (po_len rfl (by exact fc_slice_73_76_2)) rfl rfl rfl ?_)
    refine ws (st_po (po_move rfl) rfl rfl rfl ?_)
    refine s_nil ?_
    refine at_then_wp ?_
    refine r_block ?_
    refine r_loop (S := Nat × Value × List Seed) (fun ⟨j, ov, zs⟩ => [(9, ov), (42, .int .i64 j)]) [(0, _), (1, _), (2, _), (7, _), (8, _), (11, _), (32, _), (33, _), (34, _), (40, _), (41, _)] (fun ⟨j, ov, zs⟩ => Sl eI v32 (nodesN s.w s.h s.c i) :: Sl eE v40 (crossN s.w s.h s.c c) :: Sl eS ov zs :: s.lT (r.lT [F])) (fun ⟨j, ov, zs⟩ => j ≤ (crossN s.w s.h s.c c).length ∧ zs = xs ++ ((crossN s.w s.h s.c c).take j).flatMap (seedE s.w s.h (atN r) c)) (fun ⟨j, ov, zs⟩ => (crossN s.w s.h s.c c).length - j) ((0, ov, xs)) (And.intro rfl (And.intro rfl (And.intro rfl (And.intro rfl (And.intro rfl (And.intro rfl (And.intro rfl (And.intro rfl (And.intro rfl (And.intro rfl (And.intro rfl (trivial)))))))))))) (And.intro rfl (And.intro rfl (trivial))) (⟨by omega, by simp⟩) ent ?_
    rintro ⟨j, ov, zs⟩ ⟨hj, hzs⟩
    try dsimp only [List.cons_append, List.nil_append, GridS.l, GridS.p, RouteS.l, RouteS.p, GridS.lT, RouteS.lT]
    refine r_seq ?_
    refine r_reg ?_
    refine ws (st_po (po_lt rfl rfl) rfl rfl rfl ?_)
    refine s_nil ?_
    refine at_then_wp ?_
    refine r_seq ?_
    first | refine r_cond_not rfl ?_ ?_ | refine r_cond_dec rfl ?_ ?_ | refine r_cond rfl ?_ ?_
    · intro hlt2
      have hjl : j < (crossN s.w s.h s.c c).length := by omega
      obtain ⟨e, hee⟩ : ∃ e, (crossN s.w s.h s.c c)[(j : Int).toNat]'(by omega) = e := ⟨_, rfl⟩
      have hee' : (crossN s.w s.h s.c c)[j] = e := hee
      have hzl : zs.length ≤ xs.length + j := by rw [hzs, List.length_append]; have := flat_le (seedE s.w s.h (atN r) c) 1 (seedE_len s.w s.h (atN r) c) ((crossN s.w s.h s.c c).take j); rw [List.length_take] at this; omega
      have hec : 0 ≤ e.cost ∧ e.cost ≤ 255 := cross_cost ok (c := c) (hee' ▸ List.getElem_mem hjl)
      have hat := atN_rng r hr e.to
      have hI : INF = 1099511627776 := rfl
      refine r_skip ?_
      refine at_then_wp ?_
      refine r_joink (S := Value × List Seed) (fun ⟨ov, zs2⟩ => [(9, ov)]) [(0, _), (1, _), (2, _), (7, _), (8, _), (11, _), (32, _), (33, _), (34, _), (40, _), (41, _), (42, _)] (fun ⟨ov, zs2⟩ => Sl eI v32 (nodesN s.w s.h s.c i) :: Sl eE v40 (crossN s.w s.h s.c c) :: Sl eS ov zs2 :: s.lT (r.lT [F])) (fun ⟨ov, zs2⟩ => zs2 = zs ++ seedE s.w s.h (atN r) c e) (And.intro rfl (And.intro rfl (And.intro rfl (And.intro rfl (And.intro rfl (And.intro rfl (And.intro rfl (And.intro rfl (And.intro rfl (And.intro rfl (And.intro rfl (And.intro rfl (trivial))))))))))))) ?_ ?_
      · skip
        refine r_block ?_
        refine r_seq ?_
        refine r_reg ?_
        refine ws (st_po (po_iaddr rfl rfl (by exact fc_slice_73_76_2) (by first | omega | (simp only [List.length_nil, List.length_cons, List.length_append, List.length_replicate, List.length_set, List.length_map, List.length_take, List.length_drop]; omega)) (by first | omega | (simp only [List.length_nil, List.length_cons, List.length_append, List.length_replicate, List.length_set, List.length_map, List.length_take, List.length_drop]; omega))) rfl rfl rfl ?_)
        refine ws (st_po (ld_eE rfl (List.getElem?_eq_getElem (by first | omega | (simp only [List.length_nil, List.length_cons, List.length_append, List.length_replicate, List.length_set, List.length_map, List.length_take, List.length_drop]; omega))) (by exact fc_agg_76_2)) rfl rfl rfl ?_)
        refine ws (st_xo (xo_alloc (by exact fc_zero_76)) rfl rfl rfl ?_)
        rintro _ _ ⟨b13, rfl, rfl⟩
        refine ws (st_so (so_storea1 rfl rfl (by exact fc_agg_76_2) rfl rfl) rfl rfl ?_)
        refine s_nil ?_
        refine at_then_wp ?_
        refine r_seq ?_
        rw [hee]
        refine r_reg ?_
        refine ws (st_po (po_move rfl) rfl rfl rfl ?_)
        refine ws (st_po (po_faddr rfl (by exact fc_field_76_0_0)) rfl rfl rfl ?_)
        refine ws (st_po (po_load rfl (by exact fc_flat_3) (by rfl)) rfl rfl rfl ?_)
        refine ws (st_call (co_fn rfl rfl) (route_At r e.to hr) (by infer_instance) rfl rfl rfl ?_)
        rintro v49 _ ⟨rfl, rfl⟩
        try dsimp only [List.cons_append, List.nil_append, GridS.l, GridS.p, RouteS.l, RouteS.p, GridS.lT, RouteS.lT]
        refine ws (st_po (po_assign rfl) rfl rfl rfl ?_)
        refine s_nil ?_
        refine at_then_wp ?_
        refine r_seq ?_
        refine r_reg ?_
        refine ws (st_po (po_move rfl) rfl rfl rfl ?_)
        refine ws (st_po (po_ne rfl rfl) rfl rfl rfl ?_)
        refine s_nil ?_
        refine at_then_wp ?_
        first | refine r_cond_not rfl ?_ ?_ | refine r_cond_dec rfl ?_ ?_ | refine r_cond rfl ?_ ?_
        · intro hne
          refine r_tree [17] _ 19 fc_mixed (by kernel_rfl) (fun _ h => h) ?_
          refine t_fr (i := 0) (by kernel_rfl) rfl (po_move rfl) rfl rfl rfl ?_
          refine t_fr (i := 1) (by kernel_rfl) rfl (po_move rfl) rfl rfl rfl ?_
          refine t_fr (i := 2) (by kernel_rfl) rfl (po_move rfl) rfl rfl rfl ?_
          refine t_fr (i := 3) (by kernel_rfl) rfl (po_move rfl) rfl rfl rfl ?_
          refine t_fr (i := 5) (by kernel_rfl) rfl (po_move rfl) rfl rfl rfl ?_
          refine t_fr (i := 6) (by kernel_rfl) rfl (po_move rfl) rfl rfl rfl ?_
          refine t_fr (i := 7) (by kernel_rfl) rfl (po_move rfl) rfl rfl rfl ?_
          refine t_fr (i := 8) (by kernel_rfl) rfl (po_faddr rfl (by exact fc_field_76_0_0)) rfl rfl rfl ?_
          refine t_rd (i := 9) (by kernel_rfl) rfl (po_load rfl (by exact fc_flat_3) (by rfl)) (by first | exact fun _ h => h | exact ent) rfl rfl rfl ?_
          refine t_fr (i := 11) (by kernel_rfl) rfl (po_faddr rfl (by exact fc_field_76_1_1)) rfl rfl rfl ?_
          refine t_rd (i := 12) (by kernel_rfl) rfl (po_load rfl (by exact fc_flat_3) (by rfl)) (by first | exact fun _ h => h | exact ent) rfl rfl rfl ?_
          refine t_fr (i := 13) (by kernel_rfl) rfl (po_move rfl) rfl rfl rfl ?_
          refine t_fr (i := 14) (by kernel_rfl) rfl (po_add' rfl rfl (by omega) (by omega)) rfl rfl rfl ?_
          refine t_st (i := 4) (by kernel_rfl) rfl (st_call (co_fn rfl rfl) (where_Local s.w s.h c) (by infer_instance) rfl rfl rfl ?_)
          rintro v56 _ ⟨rfl, rfl⟩
          try dsimp only [List.cons_append, List.nil_append, GridS.l, GridS.p, RouteS.l, RouteS.p, GridS.lT, RouteS.lT]
          refine ⟨fun _ => (by first | exact fun _ h => h | exact ent), ?_⟩
          refine t_st (i := 10) (by kernel_rfl) rfl (st_call (co_fn rfl rfl) (where_Side s.w s.h c e.to) (by infer_instance) rfl rfl rfl ?_)
          rintro v62 _ ⟨rfl, rfl⟩
          try dsimp only [List.cons_append, List.nil_append, GridS.l, GridS.p, RouteS.l, RouteS.p, GridS.lT, RouteS.lT]
          refine ⟨fun _ => (by first | exact fun _ h => h | exact ent), ?_⟩
          refine t_st (i := 15) (by kernel_rfl) rfl (st_po (po_build1 rfl (by exact fc_zero_45) (by exact fc_places_45_0_1_2) (by exact fc_info_45) rfl) rfl rfl rfl ?_)
          refine ⟨fun _ => (by first | exact fun _ h => h | exact ent), ?_⟩
          refine t_st (i := 16) (by kernel_rfl) rfl (st_xo (xo_bslice eS [⟨localN s.w s.h c, sideN s.w s.h c e.to, e.cost + atN r e.to⟩] rfl (by exact fc_slice_32_45_3) (by exact fc_elem_45_3_24) ⟨rfl, rfl, trivial⟩ rfl (by decide)) rfl rfl rfl ?_)
          rintro v68 _ rfl
          refine ⟨fun _ => (by first | exact fun _ h => h | exact ent), ?_⟩
          refine t_st (i := 17) (by kernel_rfl) rfl (st_xo (xo_append rfl rfl (by exact fc_slice_32_45_3) (by exact fc_slice_32_45_3) (by exact fc_elem_45_3_24) (by first | omega | (simp only [List.length_nil, List.length_cons, List.length_append, List.length_replicate, List.length_set, List.length_map, List.length_take, List.length_drop]; omega)) (by first | omega | (simp only [List.length_nil, List.length_cons, List.length_append, List.length_replicate, List.length_set, List.length_map, List.length_take, List.length_drop]; omega))) rfl rfl rfl ?_)
          rintro v69 _ rfl
          refine ⟨fun h => late_no h (by kernel_rfl), ?_⟩
          refine t_fr (i := 18) (by kernel_rfl) rfl (po_assign rfl) rfl rfl rfl ?_
          refine t_nil (by kernel_rfl) ?_
          refine at_block_normal ?_
          exact at_join ((v69, zs ++ [⟨localN s.w s.h c, sideN s.w s.h c e.to, e.cost + atN r e.to⟩])) (And.intro rfl (trivial)) (And.intro rfl (And.intro rfl (And.intro rfl (And.intro rfl (And.intro rfl (And.intro rfl (And.intro rfl (And.intro rfl (And.intro rfl (And.intro rfl (And.intro rfl (And.intro rfl (trivial))))))))))))) (by rw [seedE, if_pos hne]) ent
        · intro hne
          refine r_skip ?_
          refine at_block_normal ?_
          exact at_join ((ov, zs)) (And.intro rfl (trivial)) (And.intro rfl (And.intro rfl (And.intro rfl (And.intro rfl (And.intro rfl (And.intro rfl (And.intro rfl (And.intro rfl (And.intro rfl (And.intro rfl (And.intro rfl (And.intro rfl (trivial))))))))))))) (by rw [seedE, if_neg hne, List.append_nil]) ent
      · rintro ⟨ov, zs2⟩ hz2
        try dsimp only [List.cons_append, List.nil_append, GridS.l, GridS.p, RouteS.l, RouteS.p, GridS.lT, RouteS.lT]
        refine r_reg ?_
        refine ws (st_po (po_add' rfl rfl (by omega) (by omega)) rfl rfl rfl ?_)
        refine ws (st_po (po_move rfl) rfl rfl rfl ?_)
        refine s_nil ?_
        exact at_again ((j + 1, ov, zs2)) (And.intro rfl (And.intro rfl (trivial))) (And.intro rfl (And.intro rfl (And.intro rfl (And.intro rfl (And.intro rfl (And.intro rfl (And.intro rfl (And.intro rfl (And.intro rfl (And.intro rfl (And.intro rfl (trivial)))))))))))) (⟨by omega, by rw [hz2, hzs, flat_snoc _ _ _ hjl, hee', List.append_assoc]⟩) (by omega) ent
    · intro hlt2
      refine r_exit ?_
      refine at_then_exit ?_
      refine at_then_exit ?_
      refine at_block_here ?_
      refine at_block_normal ?_
      refine at_then_wp ?_
      refine r_reg ?_
      refine ws (st_po (po_add' rfl rfl (by omega) (by omega)) rfl rfl rfl ?_)
      refine ws (st_po (po_move rfl) rfl rfl rfl ?_)
      refine s_nil ?_
      exact at_again ((k + 1, ov, zs)) (And.intro rfl (And.intro rfl (trivial))) (And.intro rfl (And.intro rfl (And.intro rfl (And.intro rfl (And.intro rfl (And.intro rfl (And.intro rfl (trivial)))))))) (⟨by omega, by rw [hzs, flat_snoc _ _ _ hkl, hce', ← hxs, List.take_of_length_le (by omega)]; rfl⟩) (by omega) ent
  · intro hlt
    have hxs : xs = seedsO s.w s.h s.c (atN r) i := by rw [hxs, List.take_of_length_le (by omega)]; rfl
    have hxl := seedsO_len s.w s.h s.c (atN r) i
    rw [← hxs] at hxl
    refine r_exit ?_
    refine at_then_exit ?_
    refine at_then_exit ?_
    refine at_block_here ?_
    refine at_then_wp ?_
    refine r_seq ?_
    refine r_seq ?_
    refine r_reg ?_
    refine ws (st_po (po_move rfl) rfl rfl rfl ?_)
    refine ws (st_call (co_fn rfl rfl) (route_Goal r) (by infer_instance) rfl rfl rfl ?_)
    rintro v73 _ ⟨rfl, rfl⟩
    try dsimp only [List.cons_append, List.nil_append, GridS.l, GridS.p, RouteS.l, RouteS.p, GridS.lT, RouteS.lT]
    refine ws (st_po (po_assign rfl) rfl rfl rfl ?_)
    refine s_nil ?_
    refine at_then_wp ?_
    refine r_seq ?_
    refine r_reg ?_
    refine ws (st_po (po_move rfl) rfl rfl rfl ?_)
    refine ws (st_po (po_move rfl) rfl rfl rfl ?_)
    refine ws (st_po (po_move rfl) rfl rfl rfl ?_)
    refine ws (st_call (co_fn rfl rfl) (where_Sector s.w s.h r.goal) (by infer_instance) rfl rfl rfl ?_)
    rintro v77 _ ⟨rfl, rfl⟩
    try dsimp only [List.cons_append, List.nil_append, GridS.l, GridS.p, RouteS.l, RouteS.p, GridS.lT, RouteS.lT]
    refine ws (st_po (po_move rfl) rfl rfl rfl ?_)
    refine ws (st_po (po_eq rfl rfl) rfl rfl rfl ?_)
    by_cases hse : sectorN s.w s.h r.goal = i
    · skip
      refine ws (st_po (po_bt (po_move rfl) (decide_eq_true hse)) rfl rfl rfl ?_)
      refine ws (st_po (po_move rfl) rfl rfl rfl ?_)
      refine ws (st_po (po_move rfl) rfl rfl rfl ?_)
      refine ws (st_call (co_fn rfl rfl) (grid_Cost s r.goal ok.bytes) (by infer_instance) rfl rfl rfl ?_)
      rintro v83 _ ⟨rfl, rfl⟩
      try dsimp only [List.cons_append, List.nil_append, GridS.l, GridS.p, RouteS.l, RouteS.p, GridS.lT, RouteS.lT]
      refine ws (st_po (po_ne rfl rfl) rfl rfl rfl ?_)
      refine ws (st_po (po_pick_t rfl rfl) rfl rfl rfl ?_)
      refine s_nil ?_
      refine at_then_wp ?_
      first | refine r_cond_not rfl ?_ ?_ | refine r_cond_dec rfl ?_ ?_ | refine r_cond rfl ?_ ?_
      · intro hco
        refine r_reg ?_
        refine ws (st_po (po_move rfl) rfl rfl rfl ?_)
        refine ws (st_po (po_move rfl) rfl rfl rfl ?_)
        refine ws (st_po (po_move rfl) rfl rfl rfl ?_)
        refine ws (st_po (po_move rfl) rfl rfl rfl ?_)
        refine ws (st_call (co_fn rfl rfl) (where_Local s.w s.h r.goal) (by infer_instance) rfl rfl rfl ?_)
        rintro v90 _ ⟨rfl, rfl⟩
        try dsimp only [List.cons_append, List.nil_append, GridS.l, GridS.p, RouteS.l, RouteS.p, GridS.lT, RouteS.lT]
        have he : xs ++ [⟨localN s.w s.h r.goal, 4, 0⟩] = seedsG s.w s.h s.c (atN r) r.goal i := by rw [seedsG, if_pos ⟨hse, hco⟩, hxs]
        refine ws (st_po (po_build1 rfl (by exact fc_zero_45) (by exact fc_places_45_0_1) (by exact fc_info_45) rfl) rfl rfl rfl ?_)
        refine ws (st_xo (xo_bslice eS [⟨localN s.w s.h r.goal, 4, 0⟩] rfl (by exact fc_slice_32_45_3) (by exact fc_elem_45_3_24) ⟨rfl, rfl, trivial⟩ rfl (by decide)) rfl rfl rfl ?_)
        rintro v92 _ rfl
        refine ws (st_xo (xo_append rfl rfl (by exact fc_slice_32_45_3) (by exact fc_slice_32_45_3) (by exact fc_elem_45_3_24) (by first | omega | (simp only [List.length_nil, List.length_cons, List.length_append, List.length_replicate, List.length_set, List.length_map, List.length_take, List.length_drop]; omega)) (by first | omega | (simp only [List.length_nil, List.length_cons, List.length_append, List.length_replicate, List.length_set, List.length_map, List.length_take, List.length_drop]; omega))) rfl rfl rfl ?_)
        rintro v93 _ rfl
        refine ws (st_po (po_assign rfl) rfl rfl rfl ?_)
        refine s_nil ?_
        refine at_then_wp ?_
        refine r_seq ?_
        refine r_reg ?_
        refine ws (st_po (po_move rfl) rfl rfl rfl ?_)
        refine ws (st_call (co_fn rfl rfl) (seeds_Sort v93 (xs ++ [⟨localN s.w s.h r.goal, 4, 0⟩]) (by rw [he]; exact hnd) (by rw [he]; omega)) (by infer_instance) rfl rfl rfl ?_)
        rintro v95 _ ⟨ys, rfl, hp, hs⟩
        try dsimp only [List.cons_append, List.nil_append, GridS.l, GridS.p, RouteS.l, RouteS.p, GridS.lT, RouteS.lT]
        refine ws (st_po (po_assign rfl) rfl rfl rfl ?_)
        refine s_nil ?_
        refine at_then_wp ?_
        refine r_ret ?_
        refine at_ret1 rfl (rv_tmp rfl) ⟨_, ⟨ys, rfl, by rw [← he]; exact hp, hs⟩, ?_⟩
        try dsimp only [List.cons_append, List.nil_append, GridS.l, GridS.p, RouteS.l, RouteS.p, GridS.lT, RouteS.lT]
        exact ent
      · intro hco
        have he : xs = seedsG s.w s.h s.c (atN r) r.goal i := by rw [seedsG, if_neg (fun h => hco h.2), List.append_nil, hxs]
        refine r_skip ?_
        refine at_then_wp ?_
        refine r_seq ?_
        refine r_reg ?_
        refine ws (st_po (po_move rfl) rfl rfl rfl ?_)
        refine ws (st_call (co_fn rfl rfl) (seeds_Sort ov xs (by rw [he]; exact hnd) (by rw [he]; omega)) (by infer_instance) rfl rfl rfl ?_)
        rintro v95 _ ⟨ys, rfl, hp, hs⟩
        try dsimp only [List.cons_append, List.nil_append, GridS.l, GridS.p, RouteS.l, RouteS.p, GridS.lT, RouteS.lT]
        refine ws (st_po (po_assign rfl) rfl rfl rfl ?_)
        refine s_nil ?_
        refine at_then_wp ?_
        refine r_ret ?_
        refine at_ret1 rfl (rv_tmp rfl) ⟨_, ⟨ys, rfl, by rw [← he]; exact hp, hs⟩, ?_⟩
        try dsimp only [List.cons_append, List.nil_append, GridS.l, GridS.p, RouteS.l, RouteS.p, GridS.lT, RouteS.lT]
        exact ent
    · skip
      refine ws (st_po (po_bf (po_move rfl) (decide_eq_false hse)) rfl rfl rfl ?_)
      have he : xs = seedsG s.w s.h s.c (atN r) r.goal i := by rw [seedsG, if_neg (fun h => hse h.1), List.append_nil, hxs]
      refine ws (st_no rfl rfl rfl ?_)
      refine ws (st_no rfl rfl rfl ?_)
      refine ws (st_no rfl rfl rfl ?_)
      refine ws (st_no rfl rfl rfl ?_)
      refine ws (st_po (po_pick_f rfl rfl) rfl rfl rfl ?_)
      refine s_nil ?_
      refine at_then_wp ?_
      refine r_cond_f rfl rfl ?_
      refine r_skip ?_
      refine at_then_wp ?_
      refine r_seq ?_
      refine r_reg ?_
      refine ws (st_po (po_move rfl) rfl rfl rfl ?_)
      refine ws (st_call (co_fn rfl rfl) (seeds_Sort ov xs (by rw [he]; exact hnd) (by rw [he]; omega)) (by infer_instance) rfl rfl rfl ?_)
      rintro v95 _ ⟨ys, rfl, hp, hs⟩
      try dsimp only [List.cons_append, List.nil_append, GridS.l, GridS.p, RouteS.l, RouteS.p, GridS.lT, RouteS.lT]
      refine ws (st_po (po_assign rfl) rfl rfl rfl ?_)
      refine s_nil ?_
      refine at_then_wp ?_
      refine r_ret ?_
      refine at_ret1 rfl (rv_tmp rfl) ⟨_, ⟨ys, rfl, by rw [← he]; exact hp, hs⟩, ?_⟩
      try dsimp only [List.cons_append, List.nil_append, GridS.l, GridS.p, RouteS.l, RouteS.p, GridS.lT, RouteS.lT]
      exact ent
theorem inject_Seeds_ep (s : GridS) (r : RouteS) (hep : r.ep ≠ s.ep) (i : Int) : Spec PP 16 #[s.p, r.p, .int .i64 i] (s.lT r.l) (fun v M => v = .slice none 0 0 ∧ M = Sl eS (.slice none 0 0) [] :: (s.l ++ r.l)) := by
  refine spec_of (Go.Proofs.Tryz.func16) rfl rfl rfl (by exact fc_enters_16) ?_
  intro g F
  try dsimp only [List.cons_append, List.nil_append, GridS.l, GridS.p, RouteS.l, RouteS.p, GridS.lT, RouteS.lT]
  refine r_seq ?_
  refine r_reg ?_
  refine ws (st_po (po_assign rfl) rfl rfl rfl ?_)
  refine s_nil ?_
  refine at_then_wp ?_
  refine r_seq ?_
  refine r_reg ?_
  refine ws (st_po (po_move rfl) rfl rfl rfl ?_)
  refine ws (st_call (co_fn rfl rfl) (grid_Size s) (by infer_instance) rfl rfl rfl ?_)
  rintro v18 _ ⟨rfl, rfl⟩
  try dsimp only [List.cons_append, List.nil_append, GridS.l, GridS.p, RouteS.l, RouteS.p, GridS.lT, RouteS.lT]
  refine ws (st_po (po_move rfl) rfl rfl rfl ?_)
  refine ws (st_po (po_extract rfl rfl) rfl rfl rfl ?_)
  refine ws (st_po (po_extract rfl rfl) rfl rfl rfl ?_)
  refine ws (st_po (po_assign rfl) rfl rfl rfl ?_)
  refine ws (st_po (po_assign rfl) rfl rfl rfl ?_)
  refine s_nil ?_
  refine at_then_wp ?_
  refine r_seq ?_
  refine r_seq ?_
  refine r_reg ?_
  refine ws (st_po (po_move rfl) rfl rfl rfl ?_)
  refine ws (st_po (po_peq rfl rfl (by exact fc_ptr_28)) rfl rfl rfl ?_)
  refine ws (st_po (po_bf (po_move rfl) (rfl)) rfl rfl rfl ?_)
  refine ws (st_po (po_move rfl) rfl rfl rfl ?_)
  refine ws (st_call (co_fn rfl rfl) (route_Epoch r) (by infer_instance) rfl rfl rfl ?_)
  rintro v25 _ ⟨rfl, rfl⟩
  try dsimp only [List.cons_append, List.nil_append, GridS.l, GridS.p, RouteS.l, RouteS.p, GridS.lT, RouteS.lT]
  refine ws (st_po (po_move rfl) rfl rfl rfl ?_)
  refine ws (st_call (co_fn rfl rfl) (grid_Epoch s) (by infer_instance) rfl rfl rfl ?_)
  rintro v27 _ ⟨rfl, rfl⟩
  try dsimp only [List.cons_append, List.nil_append, GridS.l, GridS.p, RouteS.l, RouteS.p, GridS.lT, RouteS.lT]
  refine ws (st_po (po_ne rfl rfl) rfl rfl rfl ?_)
  refine ws (st_po (po_pick_f rfl rfl) rfl rfl rfl ?_)
  refine s_nil ?_
  refine at_then_wp ?_
  first | refine r_dec_t rfl (hep) ?_ | refine r_nd_t rfl (hep) ?_ | refine r_cond_t rfl (hep) ?_
  refine r_seq ?_
  refine r_reg ?_
  refine ws (st_po (po_assign rfl) rfl rfl rfl ?_)
  refine s_nil ?_
  refine at_then_wp ?_
  refine r_ret ?_
  refine at_then_ret ?_
  refine at_ret1 rfl (rv_tmp rfl) ⟨_, ⟨rfl, rfl⟩, ?_⟩
  try dsimp only [List.cons_append, List.nil_append, GridS.l, GridS.p, RouteS.l, RouteS.p, GridS.lT, RouteS.lT]
  exact ent
theorem inject_Seeds_g (r : RouteS) (hep : r.ep ≠ 0) (i : Int) : Spec PP 16 #[.pointer none, r.p, .int .i64 i] r.l (fun v M => v = .slice none 0 0 ∧ M = Sl eS (.slice none 0 0) [] :: r.l) := by
  refine spec_of (Go.Proofs.Tryz.func16) rfl rfl rfl (by exact fc_enters_16) ?_
  intro g F
  try dsimp only [List.cons_append, List.nil_append, GridS.l, GridS.p, RouteS.l, RouteS.p, GridS.lT, RouteS.lT]
  refine r_seq ?_
  refine r_reg ?_
  refine ws (st_po (po_assign rfl) rfl rfl rfl ?_)
  refine s_nil ?_
  refine at_then_wp ?_
  refine r_seq ?_
  refine r_reg ?_
  refine ws (st_po (po_move rfl) rfl rfl rfl ?_)
  refine ws (st_call (co_fn rfl rfl) (grid_Size0) (by infer_instance) rfl rfl rfl ?_)
  rintro v18 _ ⟨rfl, rfl⟩
  try dsimp only [List.cons_append, List.nil_append, GridS.l, GridS.p, RouteS.l, RouteS.p, GridS.lT, RouteS.lT]
  refine ws (st_po (po_move rfl) rfl rfl rfl ?_)
  refine ws (st_po (po_extract rfl rfl) rfl rfl rfl ?_)
  refine ws (st_po (po_extract rfl rfl) rfl rfl rfl ?_)
  refine ws (st_po (po_assign rfl) rfl rfl rfl ?_)
  refine ws (st_po (po_assign rfl) rfl rfl rfl ?_)
  refine s_nil ?_
  refine at_then_wp ?_
  refine r_seq ?_
  refine r_seq ?_
  refine r_reg ?_
  refine ws (st_po (po_move rfl) rfl rfl rfl ?_)
  refine ws (st_po (po_peq rfl rfl (by exact fc_ptr_28)) rfl rfl rfl ?_)
  refine ws (st_po (po_bf (po_move rfl) (rfl)) rfl rfl rfl ?_)
  refine ws (st_po (po_move rfl) rfl rfl rfl ?_)
  refine ws (st_call (co_fn rfl rfl) (route_Epoch r) (by infer_instance) rfl rfl rfl ?_)
  rintro v25 _ ⟨rfl, rfl⟩
  try dsimp only [List.cons_append, List.nil_append, GridS.l, GridS.p, RouteS.l, RouteS.p, GridS.lT, RouteS.lT]
  refine ws (st_po (po_move rfl) rfl rfl rfl ?_)
  refine ws (st_call (co_fn rfl rfl) (grid_Epoch0) (by infer_instance) rfl rfl rfl ?_)
  rintro v27 _ ⟨rfl, rfl⟩
  try dsimp only [List.cons_append, List.nil_append, GridS.l, GridS.p, RouteS.l, RouteS.p, GridS.lT, RouteS.lT]
  refine ws (st_po (po_ne rfl rfl) rfl rfl rfl ?_)
  refine ws (st_po (po_pick_f rfl rfl) rfl rfl rfl ?_)
  refine s_nil ?_
  refine at_then_wp ?_
  first | refine r_dec_t rfl (hep) ?_ | refine r_nd_t rfl (hep) ?_ | refine r_cond_t rfl (hep) ?_
  refine r_seq ?_
  refine r_reg ?_
  refine ws (st_po (po_assign rfl) rfl rfl rfl ?_)
  refine s_nil ?_
  refine at_then_wp ?_
  refine r_ret ?_
  refine at_then_ret ?_
  refine at_ret1 rfl (rv_tmp rfl) ⟨_, ⟨rfl, rfl⟩, ?_⟩
  try dsimp only [List.cons_append, List.nil_append, GridS.l, GridS.p, RouteS.l, RouteS.p, GridS.lT, RouteS.lT]
  exact ent
theorem inject_Seeds_r (s : GridS) (i : Int) : Spec PP 16 #[s.p, .pointer none, .int .i64 i] s.l (fun v M => v = .slice none 0 0 ∧ M = Sl eS (.slice none 0 0) [] :: s.l) := by
  refine spec_of (Go.Proofs.Tryz.func16) rfl rfl rfl (by exact fc_enters_16) ?_
  intro g F
  try dsimp only [List.cons_append, List.nil_append, GridS.l, GridS.p, RouteS.l, RouteS.p, GridS.lT, RouteS.lT]
  refine r_seq ?_
  refine r_reg ?_
  refine ws (st_po (po_assign rfl) rfl rfl rfl ?_)
  refine s_nil ?_
  refine at_then_wp ?_
  refine r_seq ?_
  refine r_reg ?_
  refine ws (st_po (po_move rfl) rfl rfl rfl ?_)
  refine ws (st_call (co_fn rfl rfl) (grid_Size s) (by infer_instance) rfl rfl rfl ?_)
  rintro v18 _ ⟨rfl, rfl⟩
  try dsimp only [List.cons_append, List.nil_append, GridS.l, GridS.p, RouteS.l, RouteS.p, GridS.lT, RouteS.lT]
  refine ws (st_po (po_move rfl) rfl rfl rfl ?_)
  refine ws (st_po (po_extract rfl rfl) rfl rfl rfl ?_)
  refine ws (st_po (po_extract rfl rfl) rfl rfl rfl ?_)
  refine ws (st_po (po_assign rfl) rfl rfl rfl ?_)
  refine ws (st_po (po_assign rfl) rfl rfl rfl ?_)
  refine s_nil ?_
  refine at_then_wp ?_
  refine r_seq ?_
  refine r_seq ?_
  refine r_reg ?_
  refine ws (st_po (po_move rfl) rfl rfl rfl ?_)
  refine ws (st_po (po_peq rfl rfl (by exact fc_ptr_28)) rfl rfl rfl ?_)
  refine ws (st_po (po_bt (po_move rfl) (rfl)) rfl rfl rfl ?_)
  refine ws (st_no rfl rfl rfl ?_)
  refine ws (st_no rfl rfl rfl ?_)
  refine ws (st_no rfl rfl rfl ?_)
  refine ws (st_no rfl rfl rfl ?_)
  refine ws (st_no rfl rfl rfl ?_)
  refine ws (st_po (po_pick_t rfl rfl) rfl rfl rfl ?_)
  refine s_nil ?_
  refine at_then_wp ?_
  refine r_cond_t rfl rfl ?_
  refine r_seq ?_
  refine r_reg ?_
  refine ws (st_po (po_assign rfl) rfl rfl rfl ?_)
  refine s_nil ?_
  refine at_then_wp ?_
  refine r_ret ?_
  refine at_then_ret ?_
  refine at_ret1 rfl (rv_tmp rfl) ⟨_, ⟨rfl, rfl⟩, ?_⟩
  try dsimp only [List.cons_append, List.nil_append, GridS.l, GridS.p, RouteS.l, RouteS.p, GridS.lT, RouteS.lT]
  exact ent
end Hd
end
section
namespace Hd
set_option maxRecDepth 100000
open Go

theorem ref_In (n lo hi : Int) : Spec PP 11 #[.int .i64 n, .int .i64 lo, .int .i64 hi] [] (fun v M => v = .bool (decide (lo ≤ n ∧ n ≤ hi)) ∧ M = []) := by
  refine spec_of (Go.Proofs.Tryz.func11) rfl rfl rfl (by exact fc_enters_11) ?_
  intro g F
  try dsimp only [List.cons_append, List.nil_append]
  refine r_seq ?_
  refine r_reg ?_
  refine ws (st_po (po_assign rfl) rfl rfl rfl ?_)
  refine s_nil ?_
  refine at_then_wp ?_
  refine r_seq ?_
  refine r_reg ?_
  refine ws (st_po (po_move rfl) rfl rfl rfl ?_)
  refine ws (st_po (po_move rfl) rfl rfl rfl ?_)
  refine ws (st_po (po_ge rfl rfl) rfl rfl rfl ?_)
  by_cases h1 : lo ≤ n
  · skip
    refine ws (st_po (po_bt (po_move rfl) (decide_eq_true h1)) rfl rfl rfl ?_)
    refine ws (st_po (po_move rfl) rfl rfl rfl ?_)
    refine ws (st_po (po_move rfl) rfl rfl rfl ?_)
    refine ws (st_po (po_le rfl rfl) rfl rfl rfl ?_)
    refine ws (st_po (po_pick_t rfl rfl) rfl rfl rfl ?_)
    refine ws (st_po (po_assign rfl) rfl rfl rfl ?_)
    refine s_nil ?_
    refine at_then_wp ?_
    refine r_ret ?_
    refine at_ret1 rfl (rv_tmp rfl) ⟨_, ⟨by simp [h1], rfl⟩, ?_⟩
    try dsimp only [List.cons_append, List.nil_append]
    exact ent
  · skip
    refine ws (st_po (po_bf (po_move rfl) (decide_eq_false h1)) rfl rfl rfl ?_)
    refine ws (st_no rfl rfl rfl ?_)
    refine ws (st_no rfl rfl rfl ?_)
    refine ws (st_no rfl rfl rfl ?_)
    refine ws (st_po (po_pick_f rfl rfl) rfl rfl rfl ?_)
    refine ws (st_po (po_assign rfl) rfl rfl rfl ?_)
    refine s_nil ?_
    refine at_then_wp ?_
    refine r_ret ?_
    refine at_ret1 rfl (rv_tmp rfl) ⟨_, ⟨by simp [h1], rfl⟩, ?_⟩
    try dsimp only [List.cons_append, List.nil_append]
    exact ent
theorem ref_Within (n lo hi : Int) (h0 : 0 ≤ lo + 2147483648) (h1 : lo ≤ hi) (h2 : hi ≤ 2147483648) : Spec PP 8 #[.int .i64 n, .int .i64 lo, .int .i64 hi] [] (fun v M => v = .int .i64 (lo + n % (hi - lo + 1)) ∧ M = []) := by
  obtain ⟨t1, t2, t3, t4⟩ := tmod_emod (p := n) (q := hi - lo + 1) (by omega)
  refine spec_of (Go.Proofs.Tryz.func8) rfl rfl rfl (by exact fc_enters_8) ?_
  intro g F
  try dsimp only [List.cons_append, List.nil_append]
  refine r_seq ?_
  refine r_reg ?_
  refine ws (st_po (po_assign rfl) rfl rfl rfl ?_)
  refine s_nil ?_
  refine at_then_wp ?_
  refine r_seq ?_
  refine r_reg ?_
  refine ws (st_po (po_move rfl) rfl rfl rfl ?_)
  refine ws (st_po (po_move rfl) rfl rfl rfl ?_)
  refine ws (st_po (po_move rfl) rfl rfl rfl ?_)
  refine ws (st_po (po_sub' rfl rfl (by omega) (by omega)) rfl rfl rfl ?_)
  refine ws (st_po (po_add' rfl rfl (by omega) (by omega)) rfl rfl rfl ?_)
  refine ws (st_po (po_rem_t rfl rfl (by omega)) rfl rfl rfl ?_)
  refine ws (st_po (po_assign rfl) rfl rfl rfl ?_)
  refine s_nil ?_
  refine at_then_wp ?_
  refine r_seq ?_
  refine r_seq ?_
  refine r_reg ?_
  refine ws (st_po (po_move rfl) rfl rfl rfl ?_)
  refine ws (st_po (po_lt rfl rfl) rfl rfl rfl ?_)
  refine s_nil ?_
  refine at_then_wp ?_
  first | refine r_cond_not rfl ?_ ?_ | refine r_cond_dec rfl ?_ ?_ | refine r_cond rfl ?_ ?_
  · intro hn
    refine r_reg ?_
    refine ws (st_po (po_move rfl) rfl rfl rfl ?_)
    refine ws (st_po (po_move rfl) rfl rfl rfl ?_)
    refine ws (st_po (po_add' rfl rfl (by omega) (by omega)) rfl rfl rfl ?_)
    refine ws (st_po (po_move rfl) rfl rfl rfl ?_)
    refine ws (st_po (po_sub' rfl rfl (by omega) (by omega)) rfl rfl rfl ?_)
    refine ws (st_po (po_add' rfl rfl (by omega) (by omega)) rfl rfl rfl ?_)
    refine ws (st_po (po_assign rfl) rfl rfl rfl ?_)
    refine s_nil ?_
    refine at_then_wp ?_
    refine r_seq ?_
    refine r_reg ?_
    refine ws (st_po (po_move rfl) rfl rfl rfl ?_)
    refine ws (st_po (po_move rfl) rfl rfl rfl ?_)
    refine ws (st_po (po_add' rfl rfl (by omega) (by omega)) rfl rfl rfl ?_)
    refine ws (st_po (po_assign rfl) rfl rfl rfl ?_)
    refine s_nil ?_
    refine at_then_wp ?_
    refine r_ret ?_
    refine at_ret1 rfl (rv_tmp rfl) ⟨_, ⟨by rw [t1 hn]; congr 2; omega, rfl⟩, ?_⟩
    try dsimp only [List.cons_append, List.nil_append]
    exact ent
  · intro hn
    refine r_skip ?_
    refine at_then_wp ?_
    refine r_seq ?_
    refine r_reg ?_
    refine ws (st_po (po_move rfl) rfl rfl rfl ?_)
    refine ws (st_po (po_move rfl) rfl rfl rfl ?_)
    refine ws (st_po (po_add' rfl rfl (by omega) (by omega)) rfl rfl rfl ?_)
    refine ws (st_po (po_assign rfl) rfl rfl rfl ?_)
    refine s_nil ?_
    refine at_then_wp ?_
    refine r_ret ?_
    refine at_ret1 rfl (rv_tmp rfl) ⟨_, ⟨by rw [t2 (by omega)], rfl⟩, ?_⟩
    try dsimp only [List.cons_append, List.nil_append]
    exact ent
theorem ref_May (w h : Int) : Spec PP 65 #[.int .i64 w, .int .i64 h] [] (fun v M => v = .bool (decide (May w h)) ∧ M = []) := by
  refine spec_of (Go.Proofs.Tryz.func65) rfl rfl rfl (by exact fc_enters_65) ?_
  intro g F
  try dsimp only [List.cons_append, List.nil_append]
  refine r_seq ?_
  refine r_reg ?_
  refine ws (st_po (po_assign rfl) rfl rfl rfl ?_)
  refine s_nil ?_
  refine at_then_wp ?_
  refine r_seq ?_
  refine r_reg ?_
  refine ws (st_po (po_move rfl) rfl rfl rfl ?_)
  refine ws (st_call (co_fn rfl rfl) (ref_In w 1 1024) (by infer_instance) rfl rfl rfl ?_)
  rintro v6 _ ⟨rfl, rfl⟩
  try dsimp only [List.cons_append, List.nil_append]
  by_cases h1 : 1 ≤ w ∧ w ≤ 1024
  · skip
    refine ws (st_po (po_bt (po_move rfl) (decide_eq_true h1)) rfl rfl rfl ?_)
    refine ws (st_po (po_move rfl) rfl rfl rfl ?_)
    refine ws (st_call (co_fn rfl rfl) (ref_In h 1 1024) (by infer_instance) rfl rfl rfl ?_)
    rintro v9 _ ⟨rfl, rfl⟩
    try dsimp only [List.cons_append, List.nil_append]
    refine ws (st_po (po_pick_t rfl rfl) rfl rfl rfl ?_)
    refine ws (st_po (po_assign rfl) rfl rfl rfl ?_)
    refine s_nil ?_
    refine at_then_wp ?_
    refine r_ret ?_
    refine at_ret1 rfl (rv_tmp rfl) ⟨_, ⟨by simp [May, h1], rfl⟩, ?_⟩
    try dsimp only [List.cons_append, List.nil_append]
    exact ent
  · skip
    refine ws (st_po (po_bf (po_move rfl) (decide_eq_false h1)) rfl rfl rfl ?_)
    refine ws (st_no rfl rfl rfl ?_)
    refine ws (st_no rfl rfl rfl ?_)
    refine ws (st_po (po_pick_f rfl rfl) rfl rfl rfl ?_)
    refine ws (st_po (po_assign rfl) rfl rfl rfl ?_)
    refine s_nil ?_
    refine at_then_wp ?_
    refine r_ret ?_
    refine at_ret1 rfl (rv_tmp rfl) ⟨_, ⟨by simp only [May, h1, false_and, decide_false], rfl⟩, ?_⟩
    try dsimp only [List.cons_append, List.nil_append]
    exact ent
theorem ref_IsCell (w h c : Int) : Spec PP 52 #[.int .i64 w, .int .i64 h, .int .i64 c] [] (fun v M => v = .bool (decide (IsC w h c)) ∧ M = []) := by
  refine spec_of (Go.Proofs.Tryz.func52) rfl rfl rfl (by exact fc_enters_52) ?_
  intro g F
  try dsimp only [List.cons_append, List.nil_append]
  refine r_seq ?_
  refine r_reg ?_
  refine ws (st_po (po_assign rfl) rfl rfl rfl ?_)
  refine s_nil ?_
  refine at_then_wp ?_
  refine r_seq ?_
  refine r_reg ?_
  refine ws (st_po (po_move rfl) rfl rfl rfl ?_)
  refine ws (st_po (po_move rfl) rfl rfl rfl ?_)
  refine ws (st_call (co_fn rfl rfl) (ref_May w h) (by infer_instance) rfl rfl rfl ?_)
  rintro v9 _ ⟨rfl, rfl⟩
  try dsimp only [List.cons_append, List.nil_append]
  by_cases hm : May w h
  · skip
    refine ws (st_po (po_bt (po_move rfl) (decide_eq_true hm)) rfl rfl rfl ?_)
    have hb := may_mul hm
    refine ws (st_po (po_move rfl) rfl rfl rfl ?_)
    refine ws (st_po (po_move rfl) rfl rfl rfl ?_)
    refine ws (st_po (po_move rfl) rfl rfl rfl ?_)
    refine ws (st_po (po_mul' rfl rfl (by omega) (by omega)) rfl rfl rfl ?_)
    refine ws (st_po (po_sub' rfl rfl (by omega) (by omega)) rfl rfl rfl ?_)
    refine ws (st_call (co_fn rfl rfl) (ref_In c 0 (w * h - 1)) (by infer_instance) rfl rfl rfl ?_)
    rintro v16 _ ⟨rfl, rfl⟩
    try dsimp only [List.cons_append, List.nil_append]
    refine ws (st_po (po_pick_t rfl rfl) rfl rfl rfl ?_)
    refine ws (st_po (po_assign rfl) rfl rfl rfl ?_)
    refine s_nil ?_
    refine at_then_wp ?_
    refine r_ret ?_
    refine at_ret1 rfl (rv_tmp rfl) ⟨_, ⟨by congr 1; refine decide_eq_decide.2 ?_; constructor; exact (fun h => ⟨hm, h.1, by omega⟩); exact (fun h => ⟨h.2.1, by have := h.2.2; omega⟩), rfl⟩, ?_⟩
    try dsimp only [List.cons_append, List.nil_append]
    exact ent
  · skip
    refine ws (st_po (po_bf (po_move rfl) (decide_eq_false hm)) rfl rfl rfl ?_)
    refine ws (st_no rfl rfl rfl ?_)
    refine ws (st_no rfl rfl rfl ?_)
    refine ws (st_no rfl rfl rfl ?_)
    refine ws (st_no rfl rfl rfl ?_)
    refine ws (st_no rfl rfl rfl ?_)
    refine ws (st_no rfl rfl rfl ?_)
    refine ws (st_po (po_pick_f rfl rfl) rfl rfl rfl ?_)
    refine ws (st_po (po_assign rfl) rfl rfl rfl ?_)
    refine s_nil ?_
    refine at_then_wp ?_
    refine r_ret ?_
    refine at_ret1 rfl (rv_tmp rfl) ⟨_, ⟨by simp only [IsC, hm, false_and, decide_false], rfl⟩, ?_⟩
    try dsimp only [List.cons_append, List.nil_append]
    exact ent
theorem ref_Sectors (w h : Int) : Spec PP 32 #[.int .i64 w, .int .i64 h] [] (fun v M => v = .tuple #[.int .i64 (secsN w h).1, .int .i64 (secsN w h).2] ∧ M = []) := by
  refine spec_of (Go.Proofs.Tryz.func32) rfl rfl rfl (by exact fc_enters_32) ?_
  intro g F
  try dsimp only [List.cons_append, List.nil_append]
  refine r_seq ?_
  refine r_reg ?_
  refine ws (st_po (po_assign rfl) rfl rfl rfl ?_)
  refine ws (st_po (po_assign rfl) rfl rfl rfl ?_)
  refine s_nil ?_
  refine at_then_wp ?_
  refine r_seq ?_
  refine r_seq ?_
  refine r_reg ?_
  refine ws (st_po (po_move rfl) rfl rfl rfl ?_)
  refine ws (st_po (po_move rfl) rfl rfl rfl ?_)
  refine ws (st_call (co_fn rfl rfl) (ref_May w h) (by infer_instance) rfl rfl rfl ?_)
  rintro v8 _ ⟨rfl, rfl⟩
  try dsimp only [List.cons_append, List.nil_append]
  refine ws (st_po (po_not rfl) rfl rfl rfl ?_)
  refine s_nil ?_
  refine at_then_wp ?_
  first | refine r_cond_not rfl ?_ ?_ | refine r_cond_dec rfl ?_ ?_ | refine r_cond rfl ?_ ?_
  · intro hm
    refine r_seq ?_
    refine r_reg ?_
    refine ws (st_po (po_assign rfl) rfl rfl rfl ?_)
    refine ws (st_po (po_assign rfl) rfl rfl rfl ?_)
    refine s_nil ?_
    refine at_then_wp ?_
    refine r_ret ?_
    refine at_then_ret ?_
    refine at_ret2 rfl (rv_tmp rfl) (rv_tmp rfl) ⟨_, ⟨by rw [secsN, if_neg hm], rfl⟩, ?_⟩
    try dsimp only [List.cons_append, List.nil_append]
    exact ent
  · intro hm
    refine r_skip ?_
    refine at_then_wp ?_
    refine r_seq ?_
    refine r_reg ?_
    refine ws (st_po (po_move rfl) rfl rfl rfl ?_)
    refine ws (st_po (po_add' rfl rfl (by omega) (by omega)) rfl rfl rfl ?_)
    refine ws (st_po (po_sub' rfl rfl (by omega) (by omega)) rfl rfl rfl ?_)
    refine ws (st_po (po_quo' rfl rfl (by omega) (by omega) (by omega)) rfl rfl rfl ?_)
    refine ws (st_po (po_move rfl) rfl rfl rfl ?_)
    refine ws (st_po (po_add' rfl rfl (by omega) (by omega)) rfl rfl rfl ?_)
    refine ws (st_po (po_sub' rfl rfl (by omega) (by omega)) rfl rfl rfl ?_)
    refine ws (st_po (po_quo' rfl rfl (by omega) (by omega) (by omega)) rfl rfl rfl ?_)
    refine ws (st_po (po_assign rfl) rfl rfl rfl ?_)
    refine ws (st_po (po_assign rfl) rfl rfl rfl ?_)
    refine s_nil ?_
    refine at_then_wp ?_
    refine r_ret ?_
    refine at_ret2 rfl (rv_tmp rfl) (rv_tmp rfl) ⟨_, ⟨by rw [secsN, if_pos hm, acrN, acrN, show w + 16 - 1 = w + 15 from by omega, show h + 16 - 1 = h + 15 from by omega], rfl⟩, ?_⟩
    try dsimp only [List.cons_append, List.nil_append]
    exact ent
theorem ref_Count (w h : Int) : Spec PP 10 #[.int .i64 w, .int .i64 h] [] (fun v M => v = .int .i64 ((secsN w h).1 * (secsN w h).2) ∧ M = []) := by
  have hb := secs_mul w h
  refine spec_of (Go.Proofs.Tryz.func10) rfl rfl rfl (by exact fc_enters_10) ?_
  intro g F
  try dsimp only [List.cons_append, List.nil_append]
  refine r_seq ?_
  refine r_reg ?_
  refine ws (st_po (po_assign rfl) rfl rfl rfl ?_)
  refine s_nil ?_
  refine at_then_wp ?_
  refine r_seq ?_
  refine r_reg ?_
  refine ws (st_po (po_move rfl) rfl rfl rfl ?_)
  refine ws (st_po (po_move rfl) rfl rfl rfl ?_)
  refine ws (st_call (co_fn rfl rfl) (ref_Sectors w h) (by infer_instance) rfl rfl rfl ?_)
  rintro v10 _ ⟨rfl, rfl⟩
  try dsimp only [List.cons_append, List.nil_append]
  refine ws (st_po (po_move rfl) rfl rfl rfl ?_)
  refine ws (st_po (po_extract rfl rfl) rfl rfl rfl ?_)
  refine ws (st_po (po_extract rfl rfl) rfl rfl rfl ?_)
  refine ws (st_po (po_assign rfl) rfl rfl rfl ?_)
  refine ws (st_po (po_assign rfl) rfl rfl rfl ?_)
  refine s_nil ?_
  refine at_then_wp ?_
  refine r_seq ?_
  refine r_reg ?_
  refine ws (st_po (po_move rfl) rfl rfl rfl ?_)
  refine ws (st_po (po_move rfl) rfl rfl rfl ?_)
  refine ws (st_po (po_mul' rfl rfl (by omega) (by omega)) rfl rfl rfl ?_)
  refine ws (st_po (po_assign rfl) rfl rfl rfl ?_)
  refine s_nil ?_
  refine at_then_wp ?_
  refine r_ret ?_
  refine at_ret1 rfl (rv_tmp rfl) ⟨_, ⟨rfl, rfl⟩, ?_⟩
  try dsimp only [List.cons_append, List.nil_append]
  exact ent
theorem ref_Sector (w h c : Int) : Spec PP 21 #[.int .i64 w, .int .i64 h, .int .i64 c] [] (fun v M => v = .int .i64 (sectorN w h c) ∧ M = []) := by
  refine spec_of (Go.Proofs.Tryz.func21) rfl rfl rfl (by exact fc_enters_21) ?_
  intro g F
  try dsimp only [List.cons_append, List.nil_append]
  refine r_seq ?_
  refine r_reg ?_
  refine ws (st_po (po_assign rfl) rfl rfl rfl ?_)
  refine s_nil ?_
  refine at_then_wp ?_
  refine r_seq ?_
  refine r_seq ?_
  refine r_reg ?_
  refine ws (st_po (po_move rfl) rfl rfl rfl ?_)
  refine ws (st_po (po_move rfl) rfl rfl rfl ?_)
  refine ws (st_po (po_move rfl) rfl rfl rfl ?_)
  refine ws (st_call (co_fn rfl rfl) (ref_IsCell w h c) (by infer_instance) rfl rfl rfl ?_)
  rintro v12 _ ⟨rfl, rfl⟩
  try dsimp only [List.cons_append, List.nil_append]
  refine ws (st_po (po_not rfl) rfl rfl rfl ?_)
  refine s_nil ?_
  refine at_then_wp ?_
  first | refine r_cond_not rfl ?_ ?_ | refine r_cond_dec rfl ?_ ?_ | refine r_cond rfl ?_ ?_
  · intro hc
    refine r_seq ?_
    refine r_reg ?_
    refine ws (st_po (po_assign rfl) rfl rfl rfl ?_)
    refine s_nil ?_
    refine at_then_wp ?_
    refine r_ret ?_
    refine at_then_ret ?_
    refine at_ret1 rfl (rv_tmp rfl) ⟨_, ⟨by rw [sectorN, if_neg hc], rfl⟩, ?_⟩
    try dsimp only [List.cons_append, List.nil_append]
    exact ent
  · intro hc
    refine r_skip ?_
    refine at_then_wp ?_
    refine r_seq ?_
    refine r_reg ?_
    refine ws (st_po (po_move rfl) rfl rfl rfl ?_)
    refine ws (st_po (po_move rfl) rfl rfl rfl ?_)
    refine ws (st_call (co_fn rfl rfl) (ref_Sectors w h) (by infer_instance) rfl rfl rfl ?_)
    rintro v17 _ ⟨rfl, rfl⟩
    try dsimp only [List.cons_append, List.nil_append]
    refine ws (st_po (po_move rfl) rfl rfl rfl ?_)
    refine ws (st_po (po_extract rfl rfl) rfl rfl rfl ?_)
    refine ws (st_po (po_extract rfl rfl) rfl rfl rfl ?_)
    refine ws (st_po (po_assign rfl) rfl rfl rfl ?_)
    refine ws (st_po (po_assign rfl) rfl rfl rfl ?_)
    refine s_nil ?_
    refine at_then_wp ?_
    refine r_seq ?_
    have hxy := isc_xy hc
    have hbb := may_mul hc.1
    have hb := mul_1k (a := c / w / 16) (b := acrN w) (by omega) (by omega) (by unfold acrN; omega) (by unfold acrN; omega)
    rw [secsN, if_pos hc.1]
    dsimp only
    refine r_ord [] _ [(0, 1), (1, 1), (2, 1), (3, 1), (4, 1), (5, 1), (6, 1), (7, 1), (8, 1), (9, 1), (10, 1), (11, 1)] fc_mixed (by kernel_rfl) (fun _ h => h) ?_
    refine o_fr rfl (po_move rfl) rfl rfl rfl ?_
    refine o_fr rfl (po_move rfl) rfl rfl rfl ?_
    refine o_fr rfl (po_quo' rfl rfl (by omega) (by omega) (by omega)) rfl rfl rfl ?_
    refine o_fr rfl (po_quo' rfl rfl (by omega) (by omega) (by omega)) rfl rfl rfl ?_
    refine o_fr rfl (po_move rfl) rfl rfl rfl ?_
    refine o_fr rfl (po_mul' rfl rfl (by omega) (by omega)) rfl rfl rfl ?_
    refine o_fr rfl (po_move rfl) rfl rfl rfl ?_
    refine o_fr rfl (po_move rfl) rfl rfl rfl ?_
    refine o_fr rfl (po_rem' rfl rfl (by omega) (by omega)) rfl rfl rfl ?_
    refine o_fr rfl (po_quo' rfl rfl (by omega) (by omega) (by omega)) rfl rfl rfl ?_
    refine o_fr rfl (po_add' rfl rfl (by omega) (by omega)) rfl rfl rfl ?_
    refine o_fr rfl (po_assign rfl) rfl rfl rfl ?_
    refine o_nil ?_
    refine at_then_wp ?_
    refine r_ret ?_
    refine at_ret1 rfl (rv_tmp rfl) ⟨_, ⟨by rw [sectorN, if_pos hc], rfl⟩, ?_⟩
    try dsimp only [List.cons_append, List.nil_append]
    exact ent
theorem ref_Size (w h s : Int) : Spec PP 51 #[.int .i64 w, .int .i64 h, .int .i64 s] [] (fun v M => v = .tuple #[.int .i64 (sizeN w h s).1, .int .i64 (sizeN w h s).2] ∧ M = []) := by
  have hb := secs_mul w h
  refine spec_of (Go.Proofs.Tryz.func51) rfl rfl rfl (by exact fc_enters_51) ?_
  intro g F
  try dsimp only [List.cons_append, List.nil_append]
  refine r_seq ?_
  refine r_reg ?_
  refine ws (st_po (po_assign rfl) rfl rfl rfl ?_)
  refine ws (st_po (po_assign rfl) rfl rfl rfl ?_)
  refine s_nil ?_
  refine at_then_wp ?_
  refine r_seq ?_
  refine r_seq ?_
  refine r_reg ?_
  refine ws (st_po (po_move rfl) rfl rfl rfl ?_)
  refine ws (st_po (po_move rfl) rfl rfl rfl ?_)
  refine ws (st_po (po_move rfl) rfl rfl rfl ?_)
  refine ws (st_call (co_fn rfl rfl) (ref_Count w h) (by infer_instance) rfl rfl rfl ?_)
  rintro v13 _ ⟨rfl, rfl⟩
  try dsimp only [List.cons_append, List.nil_append]
  refine ws (st_po (po_sub' rfl rfl (by omega) (by omega)) rfl rfl rfl ?_)
  refine ws (st_call (co_fn rfl rfl) (ref_In s 0 ((secsN w h).1 * (secsN w h).2 - 1)) (by infer_instance) rfl rfl rfl ?_)
  rintro v15 _ ⟨rfl, rfl⟩
  try dsimp only [List.cons_append, List.nil_append]
  refine ws (st_po (po_not rfl) rfl rfl rfl ?_)
  refine s_nil ?_
  refine at_then_wp ?_
  first | refine r_cond_not rfl ?_ ?_ | refine r_cond_dec rfl ?_ ?_ | refine r_cond rfl ?_ ?_
  · intro hs
    refine r_seq ?_
    refine r_reg ?_
    refine ws (st_po (po_assign rfl) rfl rfl rfl ?_)
    refine ws (st_po (po_assign rfl) rfl rfl rfl ?_)
    refine s_nil ?_
    refine at_then_wp ?_
    refine r_ret ?_
    refine at_then_ret ?_
    refine at_ret2 rfl (rv_tmp rfl) (rv_tmp rfl) ⟨_, ⟨by rw [sizeN, if_neg (fun k => hs ⟨k.2.1, by have := k.2.2; rw [secsN, if_pos k.1]; dsimp only; omega⟩)], rfl⟩, ?_⟩
    try dsimp only [List.cons_append, List.nil_append]
    exact ent
  · intro hs
    refine r_skip ?_
    refine at_then_wp ?_
    refine r_seq ?_
    refine r_reg ?_
    refine ws (st_po (po_move rfl) rfl rfl rfl ?_)
    refine ws (st_po (po_move rfl) rfl rfl rfl ?_)
    refine ws (st_call (co_fn rfl rfl) (ref_Sectors w h) (by infer_instance) rfl rfl rfl ?_)
    rintro v20 _ ⟨rfl, rfl⟩
    try dsimp only [List.cons_append, List.nil_append]
    refine ws (st_po (po_move rfl) rfl rfl rfl ?_)
    refine ws (st_po (po_extract rfl rfl) rfl rfl rfl ?_)
    refine ws (st_po (po_extract rfl rfl) rfl rfl rfl ?_)
    refine ws (st_po (po_assign rfl) rfl rfl rfl ?_)
    refine ws (st_po (po_assign rfl) rfl rfl rfl ?_)
    refine s_nil ?_
    refine at_then_wp ?_
    refine r_seq ?_
    have hs2 : IsS w h s := iss_of (by omega) (by omega)
    have hq := iss_xy hs2
    have ha := acr_pos hs2.1
    have hm := hs2.1
    rw [secsN, if_pos hs2.1]
    dsimp only
    refine r_ord [] _ [(0, 1), (1, 1), (2, 1), (3, 1), (4, 1), (5, 1), (6, 1), (7, 1), (8, 1), (9, 1), (10, 1), (11, 1), (12, 1), (13, 1), (14, 1), (15, 1)] fc_mixed (by kernel_rfl) (fun _ h => h) ?_
    refine o_fr rfl (po_move rfl) rfl rfl rfl ?_
    refine o_fr rfl (po_move rfl) rfl rfl rfl ?_
    refine o_fr rfl (po_move rfl) rfl rfl rfl ?_
    refine o_fr rfl (po_rem' rfl rfl (by omega) (by omega)) rfl rfl rfl ?_
    refine o_fr rfl (po_mul' rfl rfl (by omega) (by omega)) rfl rfl rfl ?_
    refine o_fr rfl (po_sub' rfl rfl (by omega) (by omega)) rfl rfl rfl ?_
    refine o_fr rfl (po_min rfl rfl) rfl rfl rfl ?_
    refine o_fr rfl (po_move rfl) rfl rfl rfl ?_
    refine o_fr rfl (po_move rfl) rfl rfl rfl ?_
    refine o_fr rfl (po_move rfl) rfl rfl rfl ?_
    refine o_fr rfl (po_quo' rfl rfl (by omega) (by omega) (by omega)) rfl rfl rfl ?_
    refine o_fr rfl (po_mul' rfl rfl (by omega) (by omega)) rfl rfl rfl ?_
    refine o_fr rfl (po_sub' rfl rfl (by omega) (by omega)) rfl rfl rfl ?_
    refine o_fr rfl (po_min rfl rfl) rfl rfl rfl ?_
    refine o_fr rfl (po_assign rfl) rfl rfl rfl ?_
    refine o_fr rfl (po_assign rfl) rfl rfl rfl ?_
    refine o_nil ?_
    refine at_then_wp ?_
    refine r_ret ?_
    refine at_ret2 rfl (rv_tmp rfl) (rv_tmp rfl) ⟨_, ⟨by rw [sizeN, if_pos hs2, min_ite, min_ite, Int.mul_comm 16, Int.mul_comm 16], rfl⟩, ?_⟩
    try dsimp only [List.cons_append, List.nil_append]
    exact ent
end Hd
end
section
namespace Hd
set_option maxRecDepth 100000
open Go

theorem ref_Global (w h s l : Int) : Spec PP 18 #[.int .i64 w, .int .i64 h, .int .i64 s, .int .i64 l] [] (fun v M => v = .int .i64 (globalN w h s l) ∧ M = []) := by
  have hz := size_le w h s
  have hb := mul_1k (a := (sizeN w h s).1) (b := (sizeN w h s).2) (by omega) (by omega) (by omega) (by omega)
  refine spec_of (Go.Proofs.Tryz.func18) rfl rfl rfl (by exact fc_enters_18) ?_
  intro g F
  try dsimp only [List.cons_append, List.nil_append]
  refine r_seq ?_
  refine r_reg ?_
  refine ws (st_po (po_assign rfl) rfl rfl rfl ?_)
  refine s_nil ?_
  refine at_then_wp ?_
  refine r_seq ?_
  refine r_reg ?_
  refine ws (st_po (po_move rfl) rfl rfl rfl ?_)
  refine ws (st_po (po_move rfl) rfl rfl rfl ?_)
  refine ws (st_po (po_move rfl) rfl rfl rfl ?_)
  refine ws (st_call (co_fn rfl rfl) (ref_Size w h s) (by infer_instance) rfl rfl rfl ?_)
  rintro v17 _ ⟨rfl, rfl⟩
  try dsimp only [List.cons_append, List.nil_append]
  refine ws (st_po (po_move rfl) rfl rfl rfl ?_)
  refine ws (st_po (po_extract rfl rfl) rfl rfl rfl ?_)
  refine ws (st_po (po_extract rfl rfl) rfl rfl rfl ?_)
  refine ws (st_po (po_assign rfl) rfl rfl rfl ?_)
  refine ws (st_po (po_assign rfl) rfl rfl rfl ?_)
  refine s_nil ?_
  refine at_then_wp ?_
  refine r_seq ?_
  refine r_seq ?_
  refine r_reg ?_
  refine ws (st_po (po_move rfl) rfl rfl rfl ?_)
  refine ws (st_po (po_move rfl) rfl rfl rfl ?_)
  refine ws (st_po (po_move rfl) rfl rfl rfl ?_)
  refine ws (st_po (po_mul' rfl rfl (by omega) (by omega)) rfl rfl rfl ?_)
  refine ws (st_po (po_sub' rfl rfl (by omega) (by omega)) rfl rfl rfl ?_)
  refine ws (st_call (co_fn rfl rfl) (ref_In l 0 ((sizeN w h s).1 * (sizeN w h s).2 - 1)) (by infer_instance) rfl rfl rfl ?_)
  rintro v25 _ ⟨rfl, rfl⟩
  try dsimp only [List.cons_append, List.nil_append]
  refine ws (st_po (po_not rfl) rfl rfl rfl ?_)
  refine s_nil ?_
  refine at_then_wp ?_
  first | refine r_cond_not rfl ?_ ?_ | refine r_cond_dec rfl ?_ ?_ | refine r_cond rfl ?_ ?_
  · intro hl
    refine r_seq ?_
    refine r_reg ?_
    refine ws (st_po (po_assign rfl) rfl rfl rfl ?_)
    refine s_nil ?_
    refine at_then_wp ?_
    refine r_ret ?_
    refine at_then_ret ?_
    refine at_ret1 rfl (rv_tmp rfl) ⟨_, ⟨by rw [globalN, if_neg (fun k => hl ⟨k.2.1, by have := k.2.2; omega⟩)], rfl⟩, ?_⟩
    try dsimp only [List.cons_append, List.nil_append]
    exact ent
  · intro hl
    refine r_skip ?_
    refine at_then_wp ?_
    refine r_seq ?_
    have hs2 : IsS w h s := Classical.byContradiction fun hn => by rw [sizeN, if_neg hn] at hl; simp at hl; omega
    have hg := global_xy hs2 hl.1 (by omega)
    have hq := iss_xy hs2
    have ha := acr_pos hs2.1
    have hp := size_pos hs2
    have hm := hs2.1
    have hbm := may_mul hm
    have hs0 := hs2.2
    have hgi := mk_is hm hg.1 hg.2.1
    have h5 := mul_1k (a := acrN w) (b := acrN h) (by omega) (by omega) (by omega) (by omega)
    have h6 : 0 ≤ (s / acrN w * 16 + l / (sizeN w h s).1) * w ∧ (s / acrN w * 16 + l / (sizeN w h s).1) * w ≤ 1048576 := mul_1k (by omega) (by omega) (by omega) (by omega)
    refine r_reg ?_
    refine ws (st_po (po_move rfl) rfl rfl rfl ?_)
    refine ws (st_po (po_move rfl) rfl rfl rfl ?_)
    refine ws (st_call (co_fn rfl rfl) (ref_Sectors w h) (by infer_instance) rfl rfl rfl ?_)
    rintro v30 _ ⟨rfl, rfl⟩
    try dsimp only [List.cons_append, List.nil_append]
    refine ws (st_po (po_move rfl) rfl rfl rfl ?_)
    refine ws (st_po (po_extract rfl rfl) rfl rfl rfl ?_)
    refine ws (st_po (po_extract rfl rfl) rfl rfl rfl ?_)
    refine ws (st_po (po_assign rfl) rfl rfl rfl ?_)
    refine ws (st_po (po_assign rfl) rfl rfl rfl ?_)
    refine s_nil ?_
    refine at_then_wp ?_
    refine r_seq ?_
    rw [secsN, if_pos hm]
    dsimp only
    have h7 : (16 * (s / acrN w) + l / (sizeN w h s).1) * w = (s / acrN w * 16 + l / (sizeN w h s).1) * w := by rw [Int.mul_comm 16]
    refine r_ord [] _ [(0, 1), (1, 1), (2, 1), (3, 1), (4, 1), (5, 1), (6, 1), (7, 1), (8, 1), (9, 1), (10, 1), (11, 1), (12, 1), (13, 1), (14, 1), (15, 1), (16, 1), (17, 1), (18, 1), (19, 1)] fc_mixed (by kernel_rfl) (fun _ h => h) ?_
    refine o_fr rfl (po_move rfl) rfl rfl rfl ?_
    refine o_fr rfl (po_move rfl) rfl rfl rfl ?_
    refine o_fr rfl (po_quo' rfl rfl (by omega) (by omega) (by omega)) rfl rfl rfl ?_
    refine o_fr rfl (po_mul' rfl rfl (by omega) (by omega)) rfl rfl rfl ?_
    refine o_fr rfl (po_move rfl) rfl rfl rfl ?_
    refine o_fr rfl (po_move rfl) rfl rfl rfl ?_
    refine o_fr rfl (po_quo' rfl rfl (by omega) (by omega) (by omega)) rfl rfl rfl ?_
    refine o_fr rfl (po_add' rfl rfl (by omega) (by omega)) rfl rfl rfl ?_
    refine o_fr rfl (po_move rfl) rfl rfl rfl ?_
    refine o_fr rfl (po_mul' rfl rfl (by omega) (by omega)) rfl rfl rfl ?_
    refine o_fr rfl (po_move rfl) rfl rfl rfl ?_
    refine o_fr rfl (po_move rfl) rfl rfl rfl ?_
    refine o_fr rfl (po_rem' rfl rfl (by omega) (by omega)) rfl rfl rfl ?_
    refine o_fr rfl (po_mul' rfl rfl (by omega) (by omega)) rfl rfl rfl ?_
    refine o_fr rfl (po_add' rfl rfl (by omega) (by omega)) rfl rfl rfl ?_
    refine o_fr rfl (po_move rfl) rfl rfl rfl ?_
    refine o_fr rfl (po_move rfl) rfl rfl rfl ?_
    refine o_fr rfl (po_rem' rfl rfl (by omega) (by omega)) rfl rfl rfl ?_
    refine o_fr rfl (po_add' rfl rfl (by omega) (by omega)) rfl rfl rfl ?_
    refine o_fr rfl (po_assign rfl) rfl rfl rfl ?_
    refine o_nil ?_
    refine at_then_wp ?_
    refine r_ret ?_
    refine at_ret1 rfl (rv_tmp rfl) ⟨_, ⟨by rw [globalN, if_pos ⟨hs2, hl.1, by omega⟩, Int.mul_comm 16, Int.mul_comm 16]; congr 1; omega, rfl⟩, ?_⟩
    try dsimp only [List.cons_append, List.nil_append]
    exact ent
theorem ref_Step (w h c k : Int) : Spec PP 19 #[.int .i64 w, .int .i64 h, .int .i64 c, .int .i64 k] [] (fun v M => v = .int .i64 (stepN w h c k) ∧ M = []) := by
  refine spec_of (Go.Proofs.Tryz.func19) rfl rfl rfl (by exact fc_enters_19) ?_
  intro g F
  try dsimp only [List.cons_append, List.nil_append]
  by_cases hc : IsC w h c
  · skip
    obtain ⟨s0, s1, s2, s3⟩ := step_val hc
    have s4 : stepN w h c 4 = c := by rw [step_eq hc (by decide) (by decide)]; have := isc_xy hc; simp only [dx, dy]; simp; rw [cellN, if_pos ⟨hc.1, this.1, this.2.1⟩]; exact this.2.2.symm
    have hxy := isc_xy hc
    have hbm := may_mul hc.1
    have hm := hc.1
    have hnn := Int.mul_nonneg hxy.2.1.1 (show 0 ≤ w by omega)
    refine r_seq ?_
    refine r_reg ?_
    refine ws (st_po (po_assign rfl) rfl rfl rfl ?_)
    refine s_nil ?_
    refine at_then_wp ?_
    refine r_seq ?_
    refine r_seq ?_
    refine r_reg ?_
    refine ws (st_po (po_move rfl) rfl rfl rfl ?_)
    refine ws (st_po (po_move rfl) rfl rfl rfl ?_)
    refine ws (st_po (po_move rfl) rfl rfl rfl ?_)
    refine ws (st_call (co_fn rfl rfl) (ref_IsCell w h c) (by infer_instance) rfl rfl rfl ?_)
    rintro v14 _ ⟨rfl, rfl⟩
    try dsimp only [List.cons_append, List.nil_append]
    refine ws (st_po (po_not rfl) rfl rfl rfl ?_)
    refine ws (st_po (po_bf (po_move rfl) (by simp [hc])) rfl rfl rfl ?_)
    refine ws (st_po (po_move rfl) rfl rfl rfl ?_)
    refine ws (st_call (co_fn rfl rfl) (ref_In k 0 4) (by infer_instance) rfl rfl rfl ?_)
    rintro v18 _ ⟨rfl, rfl⟩
    try dsimp only [List.cons_append, List.nil_append]
    refine ws (st_po (po_not rfl) rfl rfl rfl ?_)
    refine ws (st_po (po_pick_f rfl rfl) rfl rfl rfl ?_)
    refine s_nil ?_
    refine at_then_wp ?_
    first | refine r_cond_not rfl ?_ ?_ | refine r_cond_dec rfl ?_ ?_ | refine r_cond rfl ?_ ?_
    · intro hk
      refine r_seq ?_
      refine r_reg ?_
      refine ws (st_po (po_assign rfl) rfl rfl rfl ?_)
      refine s_nil ?_
      refine at_then_wp ?_
      refine r_ret ?_
      refine at_then_ret ?_
      refine at_ret1 rfl (rv_tmp rfl) ⟨_, ⟨by rw [step_none (fun e => hk e.2)], rfl⟩, ?_⟩
      try dsimp only [List.cons_append, List.nil_append]
      exact ent
    · intro hk
      have hk5 : k = 0 ∨ k = 1 ∨ k = 2 ∨ k = 3 ∨ k = 4 := by omega
      rcases hk5 with rfl | rfl | rfl | rfl | rfl
      · skip
        refine r_skip ?_
        refine at_then_wp ?_
        refine r_seq ?_
        refine r_ord [] _ [(0, 1), (1, 1), (2, 1), (3, 1), (4, 1), (5, 1), (6, 1), (7, 1)] fc_mixed (by kernel_rfl) (fun _ h => h) ?_
        refine o_fr rfl (po_move rfl) rfl rfl rfl ?_
        refine o_fr rfl (po_move rfl) rfl rfl rfl ?_
        refine o_fr rfl (po_rem' rfl rfl (by omega) (by omega)) rfl rfl rfl ?_
        refine o_fr rfl (po_move rfl) rfl rfl rfl ?_
        refine o_fr rfl (po_move rfl) rfl rfl rfl ?_
        refine o_fr rfl (po_quo' rfl rfl (by omega) (by omega) (by omega)) rfl rfl rfl ?_
        refine o_fr rfl (po_assign rfl) rfl rfl rfl ?_
        refine o_fr rfl (po_assign rfl) rfl rfl rfl ?_
        refine o_nil ?_
        refine at_then_wp ?_
        refine r_seq ?_
        refine r_seq ?_
        refine r_reg ?_
        refine ws (st_po (po_move rfl) rfl rfl rfl ?_)
        refine ws (st_po (po_eq rfl rfl) rfl rfl rfl ?_)
        refine s_nil ?_
        refine at_then_wp ?_
        first | refine r_dec_t rfl (rfl) ?_ | refine r_nd_t rfl (rfl) ?_ | refine r_cond_t rfl (rfl) ?_
        refine r_reg ?_
        refine ws (st_po (po_move rfl) rfl rfl rfl ?_)
        refine ws (st_po (po_sub' rfl rfl (by omega) (by omega)) rfl rfl rfl ?_)
        refine ws (st_po (po_assign rfl) rfl rfl rfl ?_)
        refine s_nil ?_
        refine at_then_wp ?_
        refine r_seq ?_
        refine r_seq ?_
        refine r_reg ?_
        refine ws (st_po (po_move rfl) rfl rfl rfl ?_)
        refine ws (st_po (po_eq rfl rfl) rfl rfl rfl ?_)
        refine s_nil ?_
        refine at_then_wp ?_
        first | refine r_dec_f rfl (by decide) ?_ | refine r_nd_f rfl (by decide) ?_ | refine r_cond_f rfl (by decide) ?_
        refine r_skip ?_
        refine at_then_wp ?_
        refine r_seq ?_
        refine r_seq ?_
        refine r_reg ?_
        refine ws (st_po (po_move rfl) rfl rfl rfl ?_)
        refine ws (st_po (po_eq rfl rfl) rfl rfl rfl ?_)
        refine s_nil ?_
        refine at_then_wp ?_
        first | refine r_dec_f rfl (by decide) ?_ | refine r_nd_f rfl (by decide) ?_ | refine r_cond_f rfl (by decide) ?_
        refine r_skip ?_
        refine at_then_wp ?_
        refine r_seq ?_
        refine r_seq ?_
        refine r_reg ?_
        refine ws (st_po (po_move rfl) rfl rfl rfl ?_)
        refine ws (st_po (po_eq rfl rfl) rfl rfl rfl ?_)
        refine s_nil ?_
        refine at_then_wp ?_
        first | refine r_dec_f rfl (by decide) ?_ | refine r_nd_f rfl (by decide) ?_ | refine r_cond_f rfl (by decide) ?_
        refine r_skip ?_
        refine at_then_wp ?_
        refine r_seq ?_
        refine r_seq ?_
        refine r_reg ?_
        refine ws (st_po (po_move rfl) rfl rfl rfl ?_)
        refine ws (st_po (po_move rfl) rfl rfl rfl ?_)
        refine ws (st_po (po_sub' rfl rfl (by omega) (by omega)) rfl rfl rfl ?_)
        refine ws (st_call (co_fn rfl rfl) (ref_In (c % w) 0 (w - 1)) (by infer_instance) rfl rfl rfl ?_)
        rintro v46 _ ⟨rfl, rfl⟩
        try dsimp only [List.cons_append, List.nil_append]
        refine ws (st_po (po_not rfl) rfl rfl rfl ?_)
        refine ws (st_po (po_bf (po_move rfl) (by rw [decide_eq_true (by omega)]; rfl)) rfl rfl rfl ?_)
        refine ws (st_po (po_move rfl) rfl rfl rfl ?_)
        refine ws (st_po (po_move rfl) rfl rfl rfl ?_)
        refine ws (st_po (po_sub' rfl rfl (by omega) (by omega)) rfl rfl rfl ?_)
        refine ws (st_call (co_fn rfl rfl) (ref_In (c / w - 1) 0 (h - 1)) (by infer_instance) rfl rfl rfl ?_)
        rintro v52 _ ⟨rfl, rfl⟩
        try dsimp only [List.cons_append, List.nil_append]
        refine ws (st_po (po_not rfl) rfl rfl rfl ?_)
        refine ws (st_po (po_pick_f rfl rfl) rfl rfl rfl ?_)
        refine s_nil ?_
        refine at_then_wp ?_
        first | refine r_cond_not rfl ?_ ?_ | refine r_cond_dec rfl ?_ ?_ | refine r_cond rfl ?_ ?_
        · intro hy
          refine r_seq ?_
          refine r_reg ?_
          refine ws (st_po (po_assign rfl) rfl rfl rfl ?_)
          refine s_nil ?_
          refine at_then_wp ?_
          refine r_ret ?_
          refine at_then_ret ?_
          refine at_ret1 rfl (rv_tmp rfl) ⟨_, ⟨by rw [s0, if_neg (by omega)], rfl⟩, ?_⟩
          try dsimp only [List.cons_append, List.nil_append]
          exact ent
        · intro hy
          have hmb : 0 ≤ (c / w - 1) * w ∧ (c / w - 1) * w ≤ 1048576 := mul_1k (by omega) (by omega) (by omega) (by omega)
          refine r_skip ?_
          refine at_then_wp ?_
          refine r_seq ?_
          refine r_reg ?_
          refine ws (st_po (po_move rfl) rfl rfl rfl ?_)
          refine ws (st_po (po_move rfl) rfl rfl rfl ?_)
          refine ws (st_po (po_mul' rfl rfl (by omega) (by omega)) rfl rfl rfl ?_)
          refine ws (st_po (po_move rfl) rfl rfl rfl ?_)
          refine ws (st_po (po_add' rfl rfl (by omega) (by omega)) rfl rfl rfl ?_)
          refine ws (st_po (po_assign rfl) rfl rfl rfl ?_)
          refine s_nil ?_
          refine at_then_wp ?_
          refine r_ret ?_
          refine at_ret1 rfl (rv_tmp rfl) ⟨_, ⟨by rw [s0, if_pos (by omega)]; congr 1; rw [Int.sub_mul, Int.one_mul]; omega, rfl⟩, ?_⟩
          try dsimp only [List.cons_append, List.nil_append]
          exact ent
      · skip
        refine r_skip ?_
        refine at_then_wp ?_
        refine r_seq ?_
        refine r_ord [] _ [(0, 1), (1, 1), (2, 1), (3, 1), (4, 1), (5, 1), (6, 1), (7, 1)] fc_mixed (by kernel_rfl) (fun _ h => h) ?_
        refine o_fr rfl (po_move rfl) rfl rfl rfl ?_
        refine o_fr rfl (po_move rfl) rfl rfl rfl ?_
        refine o_fr rfl (po_rem' rfl rfl (by omega) (by omega)) rfl rfl rfl ?_
        refine o_fr rfl (po_move rfl) rfl rfl rfl ?_
        refine o_fr rfl (po_move rfl) rfl rfl rfl ?_
        refine o_fr rfl (po_quo' rfl rfl (by omega) (by omega) (by omega)) rfl rfl rfl ?_
        refine o_fr rfl (po_assign rfl) rfl rfl rfl ?_
        refine o_fr rfl (po_assign rfl) rfl rfl rfl ?_
        refine o_nil ?_
        refine at_then_wp ?_
        refine r_seq ?_
        refine r_seq ?_
        refine r_reg ?_
        refine ws (st_po (po_move rfl) rfl rfl rfl ?_)
        refine ws (st_po (po_eq rfl rfl) rfl rfl rfl ?_)
        refine s_nil ?_
        refine at_then_wp ?_
        first | refine r_dec_f rfl (by decide) ?_ | refine r_nd_f rfl (by decide) ?_ | refine r_cond_f rfl (by decide) ?_
        refine r_skip ?_
        refine at_then_wp ?_
        refine r_seq ?_
        refine r_seq ?_
        refine r_reg ?_
        refine ws (st_po (po_move rfl) rfl rfl rfl ?_)
        refine ws (st_po (po_eq rfl rfl) rfl rfl rfl ?_)
        refine s_nil ?_
        refine at_then_wp ?_
        first | refine r_dec_t rfl (rfl) ?_ | refine r_nd_t rfl (rfl) ?_ | refine r_cond_t rfl (rfl) ?_
        refine r_reg ?_
        refine ws (st_po (po_move rfl) rfl rfl rfl ?_)
        refine ws (st_po (po_add' rfl rfl (by omega) (by omega)) rfl rfl rfl ?_)
        refine ws (st_po (po_assign rfl) rfl rfl rfl ?_)
        refine s_nil ?_
        refine at_then_wp ?_
        refine r_seq ?_
        refine r_seq ?_
        refine r_reg ?_
        refine ws (st_po (po_move rfl) rfl rfl rfl ?_)
        refine ws (st_po (po_eq rfl rfl) rfl rfl rfl ?_)
        refine s_nil ?_
        refine at_then_wp ?_
        first | refine r_dec_f rfl (by decide) ?_ | refine r_nd_f rfl (by decide) ?_ | refine r_cond_f rfl (by decide) ?_
        refine r_skip ?_
        refine at_then_wp ?_
        refine r_seq ?_
        refine r_seq ?_
        refine r_reg ?_
        refine ws (st_po (po_move rfl) rfl rfl rfl ?_)
        refine ws (st_po (po_eq rfl rfl) rfl rfl rfl ?_)
        refine s_nil ?_
        refine at_then_wp ?_
        first | refine r_dec_f rfl (by decide) ?_ | refine r_nd_f rfl (by decide) ?_ | refine r_cond_f rfl (by decide) ?_
        refine r_skip ?_
        refine at_then_wp ?_
        refine r_seq ?_
        refine r_seq ?_
        refine r_reg ?_
        refine ws (st_po (po_move rfl) rfl rfl rfl ?_)
        refine ws (st_po (po_move rfl) rfl rfl rfl ?_)
        refine ws (st_po (po_sub' rfl rfl (by omega) (by omega)) rfl rfl rfl ?_)
        refine ws (st_call (co_fn rfl rfl) (ref_In (c % w + 1) 0 (w - 1)) (by infer_instance) rfl rfl rfl ?_)
        rintro v46 _ ⟨rfl, rfl⟩
        try dsimp only [List.cons_append, List.nil_append]
        refine ws (st_po (po_not rfl) rfl rfl rfl ?_)
        by_cases hx : 0 ≤ c % w + 1 ∧ c % w + 1 ≤ w - 1
        · skip
          refine ws (st_po (po_bf (po_move rfl) (by simp only [decide_eq_true hx]; simp)) rfl rfl rfl ?_)
          refine ws (st_po (po_move rfl) rfl rfl rfl ?_)
          refine ws (st_po (po_move rfl) rfl rfl rfl ?_)
          refine ws (st_po (po_sub' rfl rfl (by omega) (by omega)) rfl rfl rfl ?_)
          refine ws (st_call (co_fn rfl rfl) (ref_In (c / w) 0 (h - 1)) (by infer_instance) rfl rfl rfl ?_)
          rintro v52 _ ⟨rfl, rfl⟩
          try dsimp only [List.cons_append, List.nil_append]
          refine ws (st_po (po_not rfl) rfl rfl rfl ?_)
          refine ws (st_po (po_pick_f rfl rfl) rfl rfl rfl ?_)
          refine s_nil ?_
          refine at_then_wp ?_
          first | refine r_dec_f rfl (by omega) ?_ | refine r_nd_f rfl (by omega) ?_ | refine r_cond_f rfl (by omega) ?_
          refine r_skip ?_
          refine at_then_wp ?_
          refine r_seq ?_
          refine r_reg ?_
          refine ws (st_po (po_move rfl) rfl rfl rfl ?_)
          refine ws (st_po (po_move rfl) rfl rfl rfl ?_)
          refine ws (st_po (po_mul' rfl rfl (by omega) (by omega)) rfl rfl rfl ?_)
          refine ws (st_po (po_move rfl) rfl rfl rfl ?_)
          refine ws (st_po (po_add' rfl rfl (by omega) (by omega)) rfl rfl rfl ?_)
          refine ws (st_po (po_assign rfl) rfl rfl rfl ?_)
          refine s_nil ?_
          refine at_then_wp ?_
          refine r_ret ?_
          refine at_ret1 rfl (rv_tmp rfl) ⟨_, ⟨by rw [s1, if_pos (by omega)]; congr 1; omega, rfl⟩, ?_⟩
          try dsimp only [List.cons_append, List.nil_append]
          exact ent
        · skip
          refine ws (st_po (po_bt (po_move rfl) (by simp only [decide_eq_false hx]; simp)) rfl rfl rfl ?_)
          refine ws (st_no rfl rfl rfl ?_)
          refine ws (st_no rfl rfl rfl ?_)
          refine ws (st_no rfl rfl rfl ?_)
          refine ws (st_no rfl rfl rfl ?_)
          refine ws (st_no rfl rfl rfl ?_)
          refine ws (st_po (po_pick_t rfl rfl) rfl rfl rfl ?_)
          refine s_nil ?_
          refine at_then_wp ?_
          refine r_cond_t rfl rfl ?_
          refine r_seq ?_
          refine r_reg ?_
          refine ws (st_po (po_assign rfl) rfl rfl rfl ?_)
          refine s_nil ?_
          refine at_then_wp ?_
          refine r_ret ?_
          refine at_then_ret ?_
          refine at_ret1 rfl (rv_tmp rfl) ⟨_, ⟨by rw [s1, if_neg (by omega)], rfl⟩, ?_⟩
          try dsimp only [List.cons_append, List.nil_append]
          exact ent
      · skip
        refine r_skip ?_
        refine at_then_wp ?_
        refine r_seq ?_
        refine r_ord [] _ [(0, 1), (1, 1), (2, 1), (3, 1), (4, 1), (5, 1), (6, 1), (7, 1)] fc_mixed (by kernel_rfl) (fun _ h => h) ?_
        refine o_fr rfl (po_move rfl) rfl rfl rfl ?_
        refine o_fr rfl (po_move rfl) rfl rfl rfl ?_
        refine o_fr rfl (po_rem' rfl rfl (by omega) (by omega)) rfl rfl rfl ?_
        refine o_fr rfl (po_move rfl) rfl rfl rfl ?_
        refine o_fr rfl (po_move rfl) rfl rfl rfl ?_
        refine o_fr rfl (po_quo' rfl rfl (by omega) (by omega) (by omega)) rfl rfl rfl ?_
        refine o_fr rfl (po_assign rfl) rfl rfl rfl ?_
        refine o_fr rfl (po_assign rfl) rfl rfl rfl ?_
        refine o_nil ?_
        refine at_then_wp ?_
        refine r_seq ?_
        refine r_seq ?_
        refine r_reg ?_
        refine ws (st_po (po_move rfl) rfl rfl rfl ?_)
        refine ws (st_po (po_eq rfl rfl) rfl rfl rfl ?_)
        refine s_nil ?_
        refine at_then_wp ?_
        first | refine r_dec_f rfl (by decide) ?_ | refine r_nd_f rfl (by decide) ?_ | refine r_cond_f rfl (by decide) ?_
        refine r_skip ?_
        refine at_then_wp ?_
        refine r_seq ?_
        refine r_seq ?_
        refine r_reg ?_
        refine ws (st_po (po_move rfl) rfl rfl rfl ?_)
        refine ws (st_po (po_eq rfl rfl) rfl rfl rfl ?_)
        refine s_nil ?_
        refine at_then_wp ?_
        first | refine r_dec_f rfl (by decide) ?_ | refine r_nd_f rfl (by decide) ?_ | refine r_cond_f rfl (by decide) ?_
        refine r_skip ?_
        refine at_then_wp ?_
        refine r_seq ?_
        refine r_seq ?_
        refine r_reg ?_
        refine ws (st_po (po_move rfl) rfl rfl rfl ?_)
        refine ws (st_po (po_eq rfl rfl) rfl rfl rfl ?_)
        refine s_nil ?_
        refine at_then_wp ?_
        first | refine r_dec_t rfl (rfl) ?_ | refine r_nd_t rfl (rfl) ?_ | refine r_cond_t rfl (rfl) ?_
        refine r_reg ?_
        refine ws (st_po (po_move rfl) rfl rfl rfl ?_)
        refine ws (st_po (po_add' rfl rfl (by omega) (by omega)) rfl rfl rfl ?_)
        refine ws (st_po (po_assign rfl) rfl rfl rfl ?_)
        refine s_nil ?_
        refine at_then_wp ?_
        refine r_seq ?_
        refine r_seq ?_
        refine r_reg ?_
        refine ws (st_po (po_move rfl) rfl rfl rfl ?_)
        refine ws (st_po (po_eq rfl rfl) rfl rfl rfl ?_)
        refine s_nil ?_
        refine at_then_wp ?_
        first | refine r_dec_f rfl (by decide) ?_ | refine r_nd_f rfl (by decide) ?_ | refine r_cond_f rfl (by decide) ?_
        refine r_skip ?_
        refine at_then_wp ?_
        refine r_seq ?_
        refine r_seq ?_
        refine r_reg ?_
        refine ws (st_po (po_move rfl) rfl rfl rfl ?_)
        refine ws (st_po (po_move rfl) rfl rfl rfl ?_)
        refine ws (st_po (po_sub' rfl rfl (by omega) (by omega)) rfl rfl rfl ?_)
        refine ws (st_call (co_fn rfl rfl) (ref_In (c % w) 0 (w - 1)) (by infer_instance) rfl rfl rfl ?_)
        rintro v46 _ ⟨rfl, rfl⟩
        try dsimp only [List.cons_append, List.nil_append]
        refine ws (st_po (po_not rfl) rfl rfl rfl ?_)
        refine ws (st_po (po_bf (po_move rfl) (by rw [decide_eq_true (by omega)]; rfl)) rfl rfl rfl ?_)
        refine ws (st_po (po_move rfl) rfl rfl rfl ?_)
        refine ws (st_po (po_move rfl) rfl rfl rfl ?_)
        refine ws (st_po (po_sub' rfl rfl (by omega) (by omega)) rfl rfl rfl ?_)
        refine ws (st_call (co_fn rfl rfl) (ref_In (c / w + 1) 0 (h - 1)) (by infer_instance) rfl rfl rfl ?_)
        rintro v52 _ ⟨rfl, rfl⟩
        try dsimp only [List.cons_append, List.nil_append]
        refine ws (st_po (po_not rfl) rfl rfl rfl ?_)
        refine ws (st_po (po_pick_f rfl rfl) rfl rfl rfl ?_)
        refine s_nil ?_
        refine at_then_wp ?_
        first | refine r_cond_not rfl ?_ ?_ | refine r_cond_dec rfl ?_ ?_ | refine r_cond rfl ?_ ?_
        · intro hy
          refine r_seq ?_
          refine r_reg ?_
          refine ws (st_po (po_assign rfl) rfl rfl rfl ?_)
          refine s_nil ?_
          refine at_then_wp ?_
          refine r_ret ?_
          refine at_then_ret ?_
          refine at_ret1 rfl (rv_tmp rfl) ⟨_, ⟨by rw [s2, if_neg (by omega)], rfl⟩, ?_⟩
          try dsimp only [List.cons_append, List.nil_append]
          exact ent
        · intro hy
          have hmb : 0 ≤ (c / w + 1) * w ∧ (c / w + 1) * w ≤ 1048576 := mul_1k (by omega) (by omega) (by omega) (by omega)
          refine r_skip ?_
          refine at_then_wp ?_
          refine r_seq ?_
          refine r_reg ?_
          refine ws (st_po (po_move rfl) rfl rfl rfl ?_)
          refine ws (st_po (po_move rfl) rfl rfl rfl ?_)
          refine ws (st_po (po_mul' rfl rfl (by omega) (by omega)) rfl rfl rfl ?_)
          refine ws (st_po (po_move rfl) rfl rfl rfl ?_)
          refine ws (st_po (po_add' rfl rfl (by omega) (by omega)) rfl rfl rfl ?_)
          refine ws (st_po (po_assign rfl) rfl rfl rfl ?_)
          refine s_nil ?_
          refine at_then_wp ?_
          refine r_ret ?_
          refine at_ret1 rfl (rv_tmp rfl) ⟨_, ⟨by rw [s2, if_pos (by omega)]; congr 1; rw [Int.add_mul, Int.one_mul]; omega, rfl⟩, ?_⟩
          try dsimp only [List.cons_append, List.nil_append]
          exact ent
      · skip
        refine r_skip ?_
        refine at_then_wp ?_
        refine r_seq ?_
        refine r_ord [] _ [(0, 1), (1, 1), (2, 1), (3, 1), (4, 1), (5, 1), (6, 1), (7, 1)] fc_mixed (by kernel_rfl) (fun _ h => h) ?_
        refine o_fr rfl (po_move rfl) rfl rfl rfl ?_
        refine o_fr rfl (po_move rfl) rfl rfl rfl ?_
        refine o_fr rfl (po_rem' rfl rfl (by omega) (by omega)) rfl rfl rfl ?_
        refine o_fr rfl (po_move rfl) rfl rfl rfl ?_
        refine o_fr rfl (po_move rfl) rfl rfl rfl ?_
        refine o_fr rfl (po_quo' rfl rfl (by omega) (by omega) (by omega)) rfl rfl rfl ?_
        refine o_fr rfl (po_assign rfl) rfl rfl rfl ?_
        refine o_fr rfl (po_assign rfl) rfl rfl rfl ?_
        refine o_nil ?_
        refine at_then_wp ?_
        refine r_seq ?_
        refine r_seq ?_
        refine r_reg ?_
        refine ws (st_po (po_move rfl) rfl rfl rfl ?_)
        refine ws (st_po (po_eq rfl rfl) rfl rfl rfl ?_)
        refine s_nil ?_
        refine at_then_wp ?_
        first | refine r_dec_f rfl (by decide) ?_ | refine r_nd_f rfl (by decide) ?_ | refine r_cond_f rfl (by decide) ?_
        refine r_skip ?_
        refine at_then_wp ?_
        refine r_seq ?_
        refine r_seq ?_
        refine r_reg ?_
        refine ws (st_po (po_move rfl) rfl rfl rfl ?_)
        refine ws (st_po (po_eq rfl rfl) rfl rfl rfl ?_)
        refine s_nil ?_
        refine at_then_wp ?_
        first | refine r_dec_f rfl (by decide) ?_ | refine r_nd_f rfl (by decide) ?_ | refine r_cond_f rfl (by decide) ?_
        refine r_skip ?_
        refine at_then_wp ?_
        refine r_seq ?_
        refine r_seq ?_
        refine r_reg ?_
        refine ws (st_po (po_move rfl) rfl rfl rfl ?_)
        refine ws (st_po (po_eq rfl rfl) rfl rfl rfl ?_)
        refine s_nil ?_
        refine at_then_wp ?_
        first | refine r_dec_f rfl (by decide) ?_ | refine r_nd_f rfl (by decide) ?_ | refine r_cond_f rfl (by decide) ?_
        refine r_skip ?_
        refine at_then_wp ?_
        refine r_seq ?_
        refine r_seq ?_
        refine r_reg ?_
        refine ws (st_po (po_move rfl) rfl rfl rfl ?_)
        refine ws (st_po (po_eq rfl rfl) rfl rfl rfl ?_)
        refine s_nil ?_
        refine at_then_wp ?_
        first | refine r_dec_t rfl (rfl) ?_ | refine r_nd_t rfl (rfl) ?_ | refine r_cond_t rfl (rfl) ?_
        refine r_reg ?_
        refine ws (st_po (po_move rfl) rfl rfl rfl ?_)
        refine ws (st_po (po_sub' rfl rfl (by omega) (by omega)) rfl rfl rfl ?_)
        refine ws (st_po (po_assign rfl) rfl rfl rfl ?_)
        refine s_nil ?_
        refine at_then_wp ?_
        refine r_seq ?_
        refine r_seq ?_
        refine r_reg ?_
        refine ws (st_po (po_move rfl) rfl rfl rfl ?_)
        refine ws (st_po (po_move rfl) rfl rfl rfl ?_)
        refine ws (st_po (po_sub' rfl rfl (by omega) (by omega)) rfl rfl rfl ?_)
        refine ws (st_call (co_fn rfl rfl) (ref_In (c % w - 1) 0 (w - 1)) (by infer_instance) rfl rfl rfl ?_)
        rintro v46 _ ⟨rfl, rfl⟩
        try dsimp only [List.cons_append, List.nil_append]
        refine ws (st_po (po_not rfl) rfl rfl rfl ?_)
        by_cases hx : 0 ≤ c % w - 1 ∧ c % w - 1 ≤ w - 1
        · skip
          refine ws (st_po (po_bf (po_move rfl) (by simp only [decide_eq_true hx]; simp)) rfl rfl rfl ?_)
          refine ws (st_po (po_move rfl) rfl rfl rfl ?_)
          refine ws (st_po (po_move rfl) rfl rfl rfl ?_)
          refine ws (st_po (po_sub' rfl rfl (by omega) (by omega)) rfl rfl rfl ?_)
          refine ws (st_call (co_fn rfl rfl) (ref_In (c / w) 0 (h - 1)) (by infer_instance) rfl rfl rfl ?_)
          rintro v52 _ ⟨rfl, rfl⟩
          try dsimp only [List.cons_append, List.nil_append]
          refine ws (st_po (po_not rfl) rfl rfl rfl ?_)
          refine ws (st_po (po_pick_f rfl rfl) rfl rfl rfl ?_)
          refine s_nil ?_
          refine at_then_wp ?_
          first | refine r_dec_f rfl (by omega) ?_ | refine r_nd_f rfl (by omega) ?_ | refine r_cond_f rfl (by omega) ?_
          refine r_skip ?_
          refine at_then_wp ?_
          refine r_seq ?_
          refine r_reg ?_
          refine ws (st_po (po_move rfl) rfl rfl rfl ?_)
          refine ws (st_po (po_move rfl) rfl rfl rfl ?_)
          refine ws (st_po (po_mul' rfl rfl (by omega) (by omega)) rfl rfl rfl ?_)
          refine ws (st_po (po_move rfl) rfl rfl rfl ?_)
          refine ws (st_po (po_add' rfl rfl (by omega) (by omega)) rfl rfl rfl ?_)
          refine ws (st_po (po_assign rfl) rfl rfl rfl ?_)
          refine s_nil ?_
          refine at_then_wp ?_
          refine r_ret ?_
          refine at_ret1 rfl (rv_tmp rfl) ⟨_, ⟨by rw [s3, if_pos (by omega)]; congr 1; omega, rfl⟩, ?_⟩
          try dsimp only [List.cons_append, List.nil_append]
          exact ent
        · skip
          refine ws (st_po (po_bt (po_move rfl) (by simp only [decide_eq_false hx]; simp)) rfl rfl rfl ?_)
          refine ws (st_no rfl rfl rfl ?_)
          refine ws (st_no rfl rfl rfl ?_)
          refine ws (st_no rfl rfl rfl ?_)
          refine ws (st_no rfl rfl rfl ?_)
          refine ws (st_no rfl rfl rfl ?_)
          refine ws (st_po (po_pick_t rfl rfl) rfl rfl rfl ?_)
          refine s_nil ?_
          refine at_then_wp ?_
          refine r_cond_t rfl rfl ?_
          refine r_seq ?_
          refine r_reg ?_
          refine ws (st_po (po_assign rfl) rfl rfl rfl ?_)
          refine s_nil ?_
          refine at_then_wp ?_
          refine r_ret ?_
          refine at_then_ret ?_
          refine at_ret1 rfl (rv_tmp rfl) ⟨_, ⟨by rw [s3, if_neg (by omega)], rfl⟩, ?_⟩
          try dsimp only [List.cons_append, List.nil_append]
          exact ent
      · skip
        refine r_skip ?_
        refine at_then_wp ?_
        refine r_seq ?_
        refine r_ord [] _ [(0, 1), (1, 1), (2, 1), (3, 1), (4, 1), (5, 1), (6, 1), (7, 1)] fc_mixed (by kernel_rfl) (fun _ h => h) ?_
        refine o_fr rfl (po_move rfl) rfl rfl rfl ?_
        refine o_fr rfl (po_move rfl) rfl rfl rfl ?_
        refine o_fr rfl (po_rem' rfl rfl (by omega) (by omega)) rfl rfl rfl ?_
        refine o_fr rfl (po_move rfl) rfl rfl rfl ?_
        refine o_fr rfl (po_move rfl) rfl rfl rfl ?_
        refine o_fr rfl (po_quo' rfl rfl (by omega) (by omega) (by omega)) rfl rfl rfl ?_
        refine o_fr rfl (po_assign rfl) rfl rfl rfl ?_
        refine o_fr rfl (po_assign rfl) rfl rfl rfl ?_
        refine o_nil ?_
        refine at_then_wp ?_
        refine r_seq ?_
        refine r_seq ?_
        refine r_reg ?_
        refine ws (st_po (po_move rfl) rfl rfl rfl ?_)
        refine ws (st_po (po_eq rfl rfl) rfl rfl rfl ?_)
        refine s_nil ?_
        refine at_then_wp ?_
        first | refine r_dec_f rfl (by decide) ?_ | refine r_nd_f rfl (by decide) ?_ | refine r_cond_f rfl (by decide) ?_
        refine r_skip ?_
        refine at_then_wp ?_
        refine r_seq ?_
        refine r_seq ?_
        refine r_reg ?_
        refine ws (st_po (po_move rfl) rfl rfl rfl ?_)
        refine ws (st_po (po_eq rfl rfl) rfl rfl rfl ?_)
        refine s_nil ?_
        refine at_then_wp ?_
        first | refine r_dec_f rfl (by decide) ?_ | refine r_nd_f rfl (by decide) ?_ | refine r_cond_f rfl (by decide) ?_
        refine r_skip ?_
        refine at_then_wp ?_
        refine r_seq ?_
        refine r_seq ?_
        refine r_reg ?_
        refine ws (st_po (po_move rfl) rfl rfl rfl ?_)
        refine ws (st_po (po_eq rfl rfl) rfl rfl rfl ?_)
        refine s_nil ?_
        refine at_then_wp ?_
        first | refine r_dec_f rfl (by decide) ?_ | refine r_nd_f rfl (by decide) ?_ | refine r_cond_f rfl (by decide) ?_
        refine r_skip ?_
        refine at_then_wp ?_
        refine r_seq ?_
        refine r_seq ?_
        refine r_reg ?_
        refine ws (st_po (po_move rfl) rfl rfl rfl ?_)
        refine ws (st_po (po_eq rfl rfl) rfl rfl rfl ?_)
        refine s_nil ?_
        refine at_then_wp ?_
        first | refine r_dec_f rfl (by decide) ?_ | refine r_nd_f rfl (by decide) ?_ | refine r_cond_f rfl (by decide) ?_
        refine r_skip ?_
        refine at_then_wp ?_
        refine r_seq ?_
        refine r_seq ?_
        refine r_reg ?_
        refine ws (st_po (po_move rfl) rfl rfl rfl ?_)
        refine ws (st_po (po_move rfl) rfl rfl rfl ?_)
        refine ws (st_po (po_sub' rfl rfl (by omega) (by omega)) rfl rfl rfl ?_)
        refine ws (st_call (co_fn rfl rfl) (ref_In (c % w) 0 (w - 1)) (by infer_instance) rfl rfl rfl ?_)
        rintro v46 _ ⟨rfl, rfl⟩
        try dsimp only [List.cons_append, List.nil_append]
        refine ws (st_po (po_not rfl) rfl rfl rfl ?_)
        refine ws (st_po (po_bf (po_move rfl) (by rw [decide_eq_true (by omega)]; rfl)) rfl rfl rfl ?_)
        refine ws (st_po (po_move rfl) rfl rfl rfl ?_)
        refine ws (st_po (po_move rfl) rfl rfl rfl ?_)
        refine ws (st_po (po_sub' rfl rfl (by omega) (by omega)) rfl rfl rfl ?_)
        refine ws (st_call (co_fn rfl rfl) (ref_In (c / w) 0 (h - 1)) (by infer_instance) rfl rfl rfl ?_)
        rintro v52 _ ⟨rfl, rfl⟩
        try dsimp only [List.cons_append, List.nil_append]
        refine ws (st_po (po_not rfl) rfl rfl rfl ?_)
        refine ws (st_po (po_pick_f rfl rfl) rfl rfl rfl ?_)
        refine s_nil ?_
        refine at_then_wp ?_
        first | refine r_dec_f rfl (by omega) ?_ | refine r_nd_f rfl (by omega) ?_ | refine r_cond_f rfl (by omega) ?_
        refine r_skip ?_
        refine at_then_wp ?_
        refine r_seq ?_
        refine r_reg ?_
        refine ws (st_po (po_move rfl) rfl rfl rfl ?_)
        refine ws (st_po (po_move rfl) rfl rfl rfl ?_)
        refine ws (st_po (po_mul' rfl rfl (by omega) (by omega)) rfl rfl rfl ?_)
        refine ws (st_po (po_move rfl) rfl rfl rfl ?_)
        refine ws (st_po (po_add' rfl rfl (by omega) (by omega)) rfl rfl rfl ?_)
        refine ws (st_po (po_assign rfl) rfl rfl rfl ?_)
        refine s_nil ?_
        refine at_then_wp ?_
        refine r_ret ?_
        refine at_ret1 rfl (rv_tmp rfl) ⟨_, ⟨by rw [s4]; congr 1; omega, rfl⟩, ?_⟩
        try dsimp only [List.cons_append, List.nil_append]
        exact ent
  · skip
    refine r_seq ?_
    refine r_reg ?_
    refine ws (st_po (po_assign rfl) rfl rfl rfl ?_)
    refine s_nil ?_
    refine at_then_wp ?_
    refine r_seq ?_
    refine r_seq ?_
    refine r_reg ?_
    refine ws (st_po (po_move rfl) rfl rfl rfl ?_)
    refine ws (st_po (po_move rfl) rfl rfl rfl ?_)
    refine ws (st_po (po_move rfl) rfl rfl rfl ?_)
    refine ws (st_call (co_fn rfl rfl) (ref_IsCell w h c) (by infer_instance) rfl rfl rfl ?_)
    rintro v14 _ ⟨rfl, rfl⟩
    try dsimp only [List.cons_append, List.nil_append]
    refine ws (st_po (po_not rfl) rfl rfl rfl ?_)
    refine ws (st_po (po_bt (po_move rfl) (by simp [hc])) rfl rfl rfl ?_)
    refine ws (st_no rfl rfl rfl ?_)
    refine ws (st_no rfl rfl rfl ?_)
    refine ws (st_no rfl rfl rfl ?_)
    refine ws (st_po (po_pick_t rfl rfl) rfl rfl rfl ?_)
    refine s_nil ?_
    refine at_then_wp ?_
    refine r_cond_t rfl rfl ?_
    refine r_seq ?_
    refine r_reg ?_
    refine ws (st_po (po_assign rfl) rfl rfl rfl ?_)
    refine s_nil ?_
    refine at_then_wp ?_
    refine r_ret ?_
    refine at_then_ret ?_
    refine at_ret1 rfl (rv_tmp rfl) ⟨_, ⟨by rw [step_none (fun e => hc e.1)], rfl⟩, ?_⟩
    try dsimp only [List.cons_append, List.nil_append]
    exact ent
end Hd
end
section
namespace Hd
set_option maxRecDepth 100000
open Go

theorem ref_Local (w h c : Int) : Spec PP 36 #[.int .i64 w, .int .i64 h, .int .i64 c] [] (fun v M => v = .int .i64 (localN w h c) ∧ M = []) := by
  refine spec_of (Go.Proofs.Tryz.func36) rfl rfl rfl (by exact fc_enters_36) ?_
  intro g F
  try dsimp only [List.cons_append, List.nil_append]
  by_cases hc : IsC w h c
  · skip
    have hs := sector_lt hc
    have hs0 := hs.1.2.1
    have hs1 := hs.1.2.2
    have hxy := isc_xy hc
    have hm := hc.1
    have hbm := may_mul hm
    have ha := acr_pos hm
    have h5 := mul_1k (a := acrN w) (b := acrN h) (by omega) (by omega) (by omega) (by omega)
    have hz := size_le w h (sectorN w h c)
    have h6 : 0 ≤ (c / w % 16) * (sizeN w h (sectorN w h c)).1 ∧ (c / w % 16) * (sizeN w h (sectorN w h c)).1 ≤ 1048576 := mul_1k (by omega) (by omega) (by omega) (by omega)
    have e1 : c / w - 16 * (sectorN w h c / acrN w) = c / w % 16 := by rw [hs.2.2]; omega
    have e2 : 16 * (sectorN w h c % acrN w) = 16 * (c % w / 16) := by rw [hs.2.1]
    have h7 : (c / w - 16 * (sectorN w h c / acrN w)) * (sizeN w h (sectorN w h c)).1 = (c / w % 16) * (sizeN w h (sectorN w h c)).1 := by rw [e1]
    have h8 : 0 ≤ sectorN w h c / acrN w ∧ sectorN w h c / acrN w ≤ 64 := by rw [hs.2.2]; omega
    have h9 : 0 ≤ sectorN w h c % acrN w ∧ sectorN w h c % acrN w ≤ 64 := by rw [hs.2.1]; omega
    refine r_seq ?_
    refine r_reg ?_
    refine ws (st_po (po_assign rfl) rfl rfl rfl ?_)
    refine s_nil ?_
    refine at_then_wp ?_
    refine r_seq ?_
    refine r_reg ?_
    refine ws (st_po (po_move rfl) rfl rfl rfl ?_)
    refine ws (st_po (po_move rfl) rfl rfl rfl ?_)
    refine ws (st_po (po_move rfl) rfl rfl rfl ?_)
    refine ws (st_call (co_fn rfl rfl) (ref_Sector w h c) (by infer_instance) rfl rfl rfl ?_)
    rintro v15 _ ⟨rfl, rfl⟩
    try dsimp only [List.cons_append, List.nil_append]
    refine ws (st_po (po_assign rfl) rfl rfl rfl ?_)
    refine s_nil ?_
    refine at_then_wp ?_
    refine r_seq ?_
    refine r_seq ?_
    refine r_reg ?_
    refine ws (st_po (po_move rfl) rfl rfl rfl ?_)
    refine ws (st_po (po_lt rfl rfl) rfl rfl rfl ?_)
    refine s_nil ?_
    refine at_then_wp ?_
    first | refine r_dec_f rfl (by omega) ?_ | refine r_nd_f rfl (by omega) ?_ | refine r_cond_f rfl (by omega) ?_
    refine r_skip ?_
    refine at_then_wp ?_
    refine r_seq ?_
    refine r_reg ?_
    refine ws (st_po (po_move rfl) rfl rfl rfl ?_)
    refine ws (st_po (po_move rfl) rfl rfl rfl ?_)
    refine ws (st_call (co_fn rfl rfl) (ref_Sectors w h) (by infer_instance) rfl rfl rfl ?_)
    rintro v21 _ ⟨rfl, rfl⟩
    try dsimp only [List.cons_append, List.nil_append]
    refine ws (st_po (po_move rfl) rfl rfl rfl ?_)
    refine ws (st_po (po_extract rfl rfl) rfl rfl rfl ?_)
    refine ws (st_po (po_extract rfl rfl) rfl rfl rfl ?_)
    refine ws (st_po (po_assign rfl) rfl rfl rfl ?_)
    refine ws (st_po (po_assign rfl) rfl rfl rfl ?_)
    refine s_nil ?_
    refine at_then_wp ?_
    refine r_seq ?_
    rw [secsN, if_pos hm]
    dsimp only
    refine r_reg ?_
    refine ws (st_po (po_move rfl) rfl rfl rfl ?_)
    refine ws (st_po (po_move rfl) rfl rfl rfl ?_)
    refine ws (st_po (po_move rfl) rfl rfl rfl ?_)
    refine ws (st_call (co_fn rfl rfl) (ref_Size w h (sectorN w h c)) (by infer_instance) rfl rfl rfl ?_)
    rintro v28 _ ⟨rfl, rfl⟩
    try dsimp only [List.cons_append, List.nil_append]
    refine ws (st_po (po_move rfl) rfl rfl rfl ?_)
    refine ws (st_po (po_extract rfl rfl) rfl rfl rfl ?_)
    refine ws (st_po (po_extract rfl rfl) rfl rfl rfl ?_)
    refine ws (st_po (po_assign rfl) rfl rfl rfl ?_)
    refine ws (st_po (po_assign rfl) rfl rfl rfl ?_)
    refine s_nil ?_
    refine at_then_wp ?_
    refine r_seq ?_
    refine r_ord [] _ [(0, 1), (1, 1), (2, 1), (3, 1), (4, 1), (5, 1), (6, 1), (7, 1), (8, 1), (9, 1), (10, 1), (11, 1), (12, 1), (13, 1), (14, 1), (15, 1), (16, 1), (17, 1), (18, 1), (19, 1)] fc_mixed (by kernel_rfl) (fun _ h => h) ?_
    refine o_fr rfl (po_move rfl) rfl rfl rfl ?_
    refine o_fr rfl (po_move rfl) rfl rfl rfl ?_
    refine o_fr rfl (po_quo' rfl rfl (by omega) (by omega) (by omega)) rfl rfl rfl ?_
    refine o_fr rfl (po_move rfl) rfl rfl rfl ?_
    refine o_fr rfl (po_move rfl) rfl rfl rfl ?_
    refine o_fr rfl (po_quo' rfl rfl (by omega) (by omega) (by omega)) rfl rfl rfl ?_
    refine o_fr rfl (po_mul' rfl rfl (by omega) (by omega)) rfl rfl rfl ?_
    refine o_fr rfl (po_sub' rfl rfl (by omega) (by omega)) rfl rfl rfl ?_
    refine o_fr rfl (po_move rfl) rfl rfl rfl ?_
    refine o_fr rfl (po_mul' rfl rfl (by omega) (by omega)) rfl rfl rfl ?_
    refine o_fr rfl (po_move rfl) rfl rfl rfl ?_
    refine o_fr rfl (po_move rfl) rfl rfl rfl ?_
    refine o_fr rfl (po_rem' rfl rfl (by omega) (by omega)) rfl rfl rfl ?_
    refine o_fr rfl (po_add' rfl rfl (by omega) (by omega)) rfl rfl rfl ?_
    refine o_fr rfl (po_move rfl) rfl rfl rfl ?_
    refine o_fr rfl (po_move rfl) rfl rfl rfl ?_
    refine o_fr rfl (po_rem' rfl rfl (by omega) (by omega)) rfl rfl rfl ?_
    refine o_fr rfl (po_mul' rfl rfl (by omega) (by omega)) rfl rfl rfl ?_
    refine o_fr rfl (po_sub' rfl rfl (by omega) (by omega)) rfl rfl rfl ?_
    refine o_fr rfl (po_assign rfl) rfl rfl rfl ?_
    refine o_nil ?_
    refine at_then_wp ?_
    refine r_ret ?_
    refine at_ret1 rfl (rv_tmp rfl) ⟨_, ⟨by rw [localN, if_pos hc, h7, e2]; congr 1; omega, rfl⟩, ?_⟩
    try dsimp only [List.cons_append, List.nil_append]
    exact ent
  · skip
    refine r_seq ?_
    refine r_reg ?_
    refine ws (st_po (po_assign rfl) rfl rfl rfl ?_)
    refine s_nil ?_
    refine at_then_wp ?_
    refine r_seq ?_
    refine r_reg ?_
    refine ws (st_po (po_move rfl) rfl rfl rfl ?_)
    refine ws (st_po (po_move rfl) rfl rfl rfl ?_)
    refine ws (st_po (po_move rfl) rfl rfl rfl ?_)
    refine ws (st_call (co_fn rfl rfl) (ref_Sector w h c) (by infer_instance) rfl rfl rfl ?_)
    rintro v15 _ ⟨rfl, rfl⟩
    try dsimp only [List.cons_append, List.nil_append]
    rw [sectorN, if_neg hc]
    refine ws (st_po (po_assign rfl) rfl rfl rfl ?_)
    refine s_nil ?_
    refine at_then_wp ?_
    refine r_seq ?_
    refine r_seq ?_
    refine r_reg ?_
    refine ws (st_po (po_move rfl) rfl rfl rfl ?_)
    refine ws (st_po (po_lt rfl rfl) rfl rfl rfl ?_)
    refine s_nil ?_
    refine at_then_wp ?_
    first | refine r_dec_t rfl (by decide) ?_ | refine r_nd_t rfl (by decide) ?_ | refine r_cond_t rfl (by decide) ?_
    refine r_seq ?_
    refine r_reg ?_
    refine ws (st_po (po_assign rfl) rfl rfl rfl ?_)
    refine s_nil ?_
    refine at_then_wp ?_
    refine r_ret ?_
    refine at_then_ret ?_
    refine at_ret1 rfl (rv_tmp rfl) ⟨_, ⟨by rw [localN, if_neg hc], rfl⟩, ?_⟩
    try dsimp only [List.cons_append, List.nil_append]
    exact ent
/-- the cost of a number -/
def costB (x : Int) : Int := if x % 8 = 7 then 255 else if x < 160 then 1 + x % 4 else x
theorem ref_Cost (x : Int) (h0 : 0 ≤ x) (h1 : x ≤ 255) : Spec PP 27 #[.int .u8 x] [] (fun v M => v = .int .u8 (costB x) ∧ M = []) := by
  refine spec_of (Go.Proofs.Tryz.func27) rfl rfl rfl (by exact fc_enters_27) ?_
  intro g F
  try dsimp only [List.cons_append, List.nil_append]
  refine r_seq ?_
  refine r_reg ?_
  refine ws (st_po (po_assign rfl) rfl rfl rfl ?_)
  refine s_nil ?_
  refine at_then_wp ?_
  refine r_seq ?_
  refine r_seq ?_
  refine r_reg ?_
  refine ws (st_po (po_move rfl) rfl rfl rfl ?_)
  refine ws (st_po (po_rem_u rfl rfl (by omega) (by omega)) rfl rfl rfl ?_)
  refine ws (st_po (po_eq rfl rfl) rfl rfl rfl ?_)
  refine s_nil ?_
  refine at_then_wp ?_
  first | refine r_cond_not rfl ?_ ?_ | refine r_cond_dec rfl ?_ ?_ | refine r_cond rfl ?_ ?_
  · intro h7
    refine r_seq ?_
    refine r_reg ?_
    refine ws (st_po (po_assign rfl) rfl rfl rfl ?_)
    refine s_nil ?_
    refine at_then_wp ?_
    refine r_ret ?_
    refine at_then_ret ?_
    refine at_ret1 rfl (rv_tmp rfl) ⟨_, ⟨by rw [costB, if_pos h7], rfl⟩, ?_⟩
    try dsimp only [List.cons_append, List.nil_append]
    exact ent
  · intro h7
    refine r_skip ?_
    refine at_then_wp ?_
    refine r_seq ?_
    refine r_seq ?_
    refine r_reg ?_
    refine ws (st_po (po_move rfl) rfl rfl rfl ?_)
    refine ws (st_po (po_lt rfl rfl) rfl rfl rfl ?_)
    refine s_nil ?_
    refine at_then_wp ?_
    first | refine r_cond_not rfl ?_ ?_ | refine r_cond_dec rfl ?_ ?_ | refine r_cond rfl ?_ ?_
    · intro h8
      refine r_seq ?_
      refine r_reg ?_
      refine ws (st_po (po_move rfl) rfl rfl rfl ?_)
      refine ws (st_po (po_rem_u rfl rfl (by omega) (by omega)) rfl rfl rfl ?_)
      refine ws (st_po (po_add_w rfl rfl (wrap_u8 _ (by omega) (by omega))) rfl rfl rfl ?_)
      refine ws (st_po (po_assign rfl) rfl rfl rfl ?_)
      refine s_nil ?_
      refine at_then_wp ?_
      refine r_ret ?_
      refine at_then_ret ?_
      refine at_ret1 rfl (rv_tmp rfl) ⟨_, ⟨by rw [costB, if_neg h7, if_pos h8], rfl⟩, ?_⟩
      try dsimp only [List.cons_append, List.nil_append]
      exact ent
    · intro h8
      refine r_skip ?_
      refine at_then_wp ?_
      refine r_seq ?_
      refine r_reg ?_
      refine ws (st_po (po_move rfl) rfl rfl rfl ?_)
      refine ws (st_po (po_assign rfl) rfl rfl rfl ?_)
      refine s_nil ?_
      refine at_then_wp ?_
      refine r_ret ?_
      refine at_ret1 rfl (rv_tmp rfl) ⟨_, ⟨by rw [costB, if_neg h7, if_neg h8], rfl⟩, ?_⟩
      try dsimp only [List.cons_append, List.nil_append]
      exact ent
theorem ref_full (cv : Value) (c : List Int) (hl : c.length ≤ 2^30) : Spec PP 81 #[cv] [Sl eB cv c] (fun v M => v = .bool (!decide ((0 : Int) ∈ c)) ∧ M = [Sl eB cv c]) := by
  refine spec_of (Go.Proofs.Tryz.func81) rfl rfl rfl (by exact fc_enters_81) ?_
  intro g F
  try dsimp only [List.cons_append, List.nil_append]
  refine r_seq ?_
  refine r_reg ?_
  refine ws (st_po (po_assign rfl) rfl rfl rfl ?_)
  refine s_nil ?_
  refine at_then_wp ?_
  refine r_seq ?_
  refine r_seq ?_
  refine r_reg ?_
  refine ws (st_po (po_assign rfl) rfl rfl rfl ?_)
  refine s_nil ?_
  refine at_then_wp ?_
  refine r_block ?_
  refine r_loop (S := Nat) (fun k => [(3, .int .i64 k)]) [(0, _)] (fun k => [Sl eB cv c, F]) (fun k => k ≤ c.length ∧ ∀ j, (h : j < c.length) → j < k → c[j] ≠ 0) (fun k => c.length - k) (0) (And.intro rfl (trivial)) (And.intro rfl (trivial)) (⟨by omega, fun j _ h => by omega⟩) ent ?_
  rintro k ⟨hk, hne⟩
  try dsimp only [List.cons_append, List.nil_append]
  refine r_seq ?_
  refine r_seq ?_
  refine r_reg ?_
  refine ws (st_po (po_move rfl) rfl rfl rfl ?_)
  refine ws (st_po (po_move rfl) rfl rfl rfl ?_)
  refine ws (st_po (po_len rfl (by exact fc_slice_22_5_1)) rfl rfl rfl ?_)
  refine ws (st_po (po_lt rfl rfl) rfl rfl rfl ?_)
  refine s_nil ?_
  refine at_then_wp ?_
  first | refine r_cond_not rfl ?_ ?_ | refine r_cond_dec rfl ?_ ?_ | refine r_cond rfl ?_ ?_
  · intro hlt
    refine r_skip ?_
    refine at_then_wp ?_
    refine r_seq ?_
    refine r_block ?_
    refine r_seq ?_
    refine r_reg ?_
    refine ws (st_po (po_move rfl) rfl rfl rfl ?_)
    refine ws (st_po (po_move rfl) rfl rfl rfl ?_)
    refine ws (st_po (po_iaddr rfl rfl (by exact fc_slice_22_5_1) (by first | omega | (simp only [List.length_nil, List.length_cons, List.length_append, List.length_replicate, List.length_set, List.length_map, List.length_take, List.length_drop]; omega)) (by first | omega | (simp only [List.length_nil, List.length_cons, List.length_append, List.length_replicate, List.length_set, List.length_map, List.length_take, List.length_drop]; omega))) rfl rfl rfl ?_)
    refine ws (st_po (po_load_sl rfl (List.getElem?_eq_getElem (by first | omega | (simp only [List.length_nil, List.length_cons, List.length_append, List.length_replicate, List.length_set, List.length_map, List.length_take, List.length_drop]; omega))) (by exact fc_flat_5) (by rfl)) rfl rfl rfl ?_)
    refine ws (st_po (po_eq rfl rfl) rfl rfl rfl ?_)
    refine s_nil ?_
    refine at_then_wp ?_
    first | refine r_cond_not rfl ?_ ?_ | refine r_cond_dec rfl ?_ ?_ | refine r_cond rfl ?_ ?_
    · intro heq
      refine r_seq ?_
      refine r_reg ?_
      refine ws (st_po (po_assign rfl) rfl rfl rfl ?_)
      refine s_nil ?_
      refine at_then_wp ?_
      refine r_ret ?_
      refine at_block_ret ?_
      refine at_then_ret ?_
      refine at_then_ret ?_
      refine at_block_ret ?_
      refine at_then_ret ?_
      refine at_ret1 rfl (rv_tmp rfl) ⟨_, ⟨by rw [decide_eq_true (by rw [← heq]; exact List.getElem_mem _)]; rfl, rfl⟩, ?_⟩
      try dsimp only [List.cons_append, List.nil_append]
      exact ent
    · intro heq
      refine r_skip ?_
      refine at_block_normal ?_
      refine at_then_wp ?_
      refine r_reg ?_
      refine ws (st_po (po_move rfl) rfl rfl rfl ?_)
      refine ws (st_po (po_add' rfl rfl (by omega) (by omega)) rfl rfl rfl ?_)
      refine ws (st_po (po_assign rfl) rfl rfl rfl ?_)
      refine s_nil ?_
      exact at_again (k + 1) (And.intro rfl (trivial)) (And.intro rfl (trivial)) (⟨by omega, fun j hj h => by by_cases e : j = k; (subst e; simpa using heq); exact hne j hj (by omega)⟩) (by omega) ent
  · intro hlt
    refine r_exit ?_
    refine at_then_exit ?_
    refine at_then_exit ?_
    refine at_block_here ?_
    refine at_then_wp ?_
    refine r_seq ?_
    refine r_reg ?_
    refine ws (st_po (po_assign rfl) rfl rfl rfl ?_)
    refine s_nil ?_
    refine at_then_wp ?_
    refine r_ret ?_
    refine at_ret1 rfl (rv_tmp rfl) ⟨_, ⟨by rw [decide_eq_false (fun h => by obtain ⟨j, hj, e⟩ := List.getElem_of_mem h; exact hne j hj (by omega) e)]; rfl, rfl⟩, ?_⟩
    try dsimp only [List.cons_append, List.nil_append]
    exact ent
theorem ref_Ints (av bv : Value) (a b : List Int) (hl : a.length ≤ 2^30) : Spec PP 57 #[av, bv] [Sl eI av a, Sl eI bv b] (fun v M => v = .bool (decide (a = b)) ∧ M = [Sl eI av a, Sl eI bv b]) := by
  refine spec_of (Go.Proofs.Tryz.func57) rfl rfl rfl (by exact fc_enters_57) ?_
  intro g F
  try dsimp only [List.cons_append, List.nil_append]
  refine r_seq ?_
  refine r_reg ?_
  refine ws (st_po (po_assign rfl) rfl rfl rfl ?_)
  refine s_nil ?_
  refine at_then_wp ?_
  refine r_seq ?_
  refine r_seq ?_
  refine r_reg ?_
  refine ws (st_po (po_move rfl) rfl rfl rfl ?_)
  refine ws (st_po (po_len rfl (by exact fc_slice_35_3_1)) rfl rfl rfl ?_)
  refine ws (st_po (po_move rfl) rfl rfl rfl ?_)
  refine ws (st_po (po_len rfl (by exact fc_slice_35_3_1)) rfl rfl rfl ?_)
  refine ws (st_po (po_ne rfl rfl) rfl rfl rfl ?_)
  refine s_nil ?_
  refine at_then_wp ?_
  first | refine r_cond_not rfl ?_ ?_ | refine r_cond_dec rfl ?_ ?_ | refine r_cond rfl ?_ ?_
  · intro h0
    refine r_seq ?_
    refine r_reg ?_
    refine ws (st_po (po_assign rfl) rfl rfl rfl ?_)
    refine s_nil ?_
    refine at_then_wp ?_
    refine r_ret ?_
    refine at_then_ret ?_
    refine at_ret1 rfl (rv_tmp rfl) ⟨_, ⟨by rw [decide_eq_false (fun e => h0 (by rw [e]))], rfl⟩, ?_⟩
    try dsimp only [List.cons_append, List.nil_append]
    exact ent
  · intro h0
    refine r_skip ?_
    refine at_then_wp ?_
    refine r_seq ?_
    refine r_seq ?_
    refine r_reg ?_
    refine ws (st_po (po_assign rfl) rfl rfl rfl ?_)
    refine s_nil ?_
    refine at_then_wp ?_
    refine r_block ?_
    refine r_loop (S := Nat) (fun k => [(5, .int .i64 k)]) [(0, _), (1, _)] (fun k => [Sl eI av a, Sl eI bv b, F]) (fun k => k ≤ a.length ∧ a.length = b.length ∧ a.take k = b.take k) (fun k => a.length - k) (0) (And.intro rfl (And.intro rfl (trivial))) (And.intro rfl (trivial)) (⟨by omega, by omega, by simp⟩) ent ?_
    rintro k ⟨hk, hll, hne⟩
    try dsimp only [List.cons_append, List.nil_append]
    refine r_seq ?_
    refine r_seq ?_
    refine r_reg ?_
    refine ws (st_po (po_move rfl) rfl rfl rfl ?_)
    refine ws (st_po (po_move rfl) rfl rfl rfl ?_)
    refine ws (st_po (po_len rfl (by exact fc_slice_35_3_1)) rfl rfl rfl ?_)
    refine ws (st_po (po_lt rfl rfl) rfl rfl rfl ?_)
    refine s_nil ?_
    refine at_then_wp ?_
    first | refine r_cond_not rfl ?_ ?_ | refine r_cond_dec rfl ?_ ?_ | refine r_cond rfl ?_ ?_
    · intro hlt
      refine r_skip ?_
      refine at_then_wp ?_
      refine r_seq ?_
      refine r_block ?_
      refine r_seq ?_
      refine r_ord [] _ [(0, 1), (1, 1), (2, 0), (3, 0), (4, 1), (5, 1), (6, 0), (7, 0), (8, 1)] fc_mixed (by kernel_rfl) (fun _ h => h) ?_
      refine o_fr rfl (po_move rfl) rfl rfl rfl ?_
      refine o_fr rfl (po_move rfl) rfl rfl rfl ?_
      refine o_rd rfl (po_iaddr rfl rfl (by exact fc_slice_35_3_1) (by first | omega | (simp only [List.length_nil, List.length_cons, List.length_append, List.length_replicate, List.length_set, List.length_map, List.length_take, List.length_drop]; omega)) (by first | omega | (simp only [List.length_nil, List.length_cons, List.length_append, List.length_replicate, List.length_set, List.length_map, List.length_take, List.length_drop]; omega))) (by first | exact fun _ h => h | exact ent) rfl rfl rfl ?_
      refine o_rd rfl (po_load_sl rfl (List.getElem?_eq_getElem (by first | omega | (simp only [List.length_nil, List.length_cons, List.length_append, List.length_replicate, List.length_set, List.length_map, List.length_take, List.length_drop]; omega))) (by exact fc_flat_3) (by rfl)) (by first | exact fun _ h => h | exact ent) rfl rfl rfl ?_
      refine o_fr rfl (po_move rfl) rfl rfl rfl ?_
      refine o_fr rfl (po_move rfl) rfl rfl rfl ?_
      refine o_rd rfl (po_iaddr rfl rfl (by exact fc_slice_35_3_1) (by first | omega | (simp only [List.length_nil, List.length_cons, List.length_append, List.length_replicate, List.length_set, List.length_map, List.length_take, List.length_drop]; omega)) (by first | omega | (simp only [List.length_nil, List.length_cons, List.length_append, List.length_replicate, List.length_set, List.length_map, List.length_take, List.length_drop]; omega))) (by first | exact fun _ h => h | exact ent) rfl rfl rfl ?_
      refine o_rd rfl (po_load_sl rfl (List.getElem?_eq_getElem (by first | omega | (simp only [List.length_nil, List.length_cons, List.length_append, List.length_replicate, List.length_set, List.length_map, List.length_take, List.length_drop]; omega))) (by exact fc_flat_3) (by rfl)) (by first | exact fun _ h => h | exact ent) rfl rfl rfl ?_
      refine o_fr rfl (po_ne rfl rfl) rfl rfl rfl ?_
      refine o_nil ?_
      refine at_then_wp ?_
      first | refine r_cond_not rfl ?_ ?_ | refine r_cond_dec rfl ?_ ?_ | refine r_cond rfl ?_ ?_
      · intro heq
        refine r_seq ?_
        refine r_reg ?_
        refine ws (st_po (po_assign rfl) rfl rfl rfl ?_)
        refine s_nil ?_
        refine at_then_wp ?_
        refine r_ret ?_
        refine at_block_ret ?_
        refine at_then_ret ?_
        refine at_then_ret ?_
        refine at_block_ret ?_
        refine at_then_ret ?_
        simp only [Int.toNat_natCast] at heq
        refine at_ret1 rfl (rv_tmp rfl) ⟨_, ⟨by rw [decide_eq_false (fun e => heq (by subst e; rfl))], rfl⟩, ?_⟩
        try dsimp only [List.cons_append, List.nil_append]
        exact ent
      · intro heq
        refine r_skip ?_
        refine at_block_normal ?_
        refine at_then_wp ?_
        refine r_reg ?_
        refine ws (st_po (po_move rfl) rfl rfl rfl ?_)
        refine ws (st_po (po_add' rfl rfl (by omega) (by omega)) rfl rfl rfl ?_)
        refine ws (st_po (po_assign rfl) rfl rfl rfl ?_)
        refine s_nil ?_
        simp only [Int.toNat_natCast] at heq
        exact at_again (k + 1) (And.intro rfl (trivial)) (And.intro rfl (And.intro rfl (trivial))) (⟨by omega, hll, by rw [take_snoc a k (by omega), take_snoc b k (by omega), hne, Classical.not_not.1 heq]⟩) (by omega) ent
    · intro hlt
      refine r_exit ?_
      refine at_then_exit ?_
      refine at_then_exit ?_
      refine at_block_here ?_
      refine at_then_wp ?_
      refine r_seq ?_
      refine r_reg ?_
      refine ws (st_po (po_assign rfl) rfl rfl rfl ?_)
      refine s_nil ?_
      refine at_then_wp ?_
      refine r_ret ?_
      refine at_ret1 rfl (rv_tmp rfl) ⟨_, ⟨by rw [decide_eq_true (by rw [List.take_of_length_le (by omega), List.take_of_length_le (by omega)] at hne; exact hne)], rfl⟩, ?_⟩
      try dsimp only [List.cons_append, List.nil_append]
      exact ent
theorem ref_MayTile (tc : Value) (t : Tile) (hl : t.c.length ≤ 2^30) : Spec PP 53 #[tileV tc t] [Sl eB tc t.c] (fun v M => v = .bool (decide (MayT t)) ∧ M = [Sl eB tc t.c]) := by
  refine spec_of (Go.Proofs.Tryz.func53) rfl rfl rfl (by exact fc_enters_53) ?_
  intro g F
  try dsimp only [List.cons_append, List.nil_append]
  refine r_seq ?_
  refine r_reg ?_
  refine ws (st_xo (xo_box rfl rfl) rfl rfl rfl ?_)
  rintro _ _ ⟨b1, rfl, rfl⟩
  refine ws (st_po (po_assign rfl) rfl rfl rfl ?_)
  refine s_nil ?_
  refine at_then_wp ?_
  refine r_seq ?_
  refine r_seq ?_
  refine r_reg ?_
  refine ws (st_po (po_faddr rfl (by exact fc_field_41_0_0)) rfl rfl rfl ?_)
  refine ws (st_po (po_load rfl (by exact fc_flat_3) (by rfl)) rfl rfl rfl ?_)
  refine ws (st_call (co_fn rfl rfl) (ref_In t.w 1 16) (by infer_instance) rfl rfl rfl ?_)
  rintro v5 _ ⟨rfl, rfl⟩
  try dsimp only [List.cons_append, List.nil_append]
  refine ws (st_po (po_not rfl) rfl rfl rfl ?_)
  by_cases h1 : 1 ≤ t.w ∧ t.w ≤ 16
  · skip
    refine ws (st_po (po_bf (po_move rfl) (by simp only [decide_eq_true h1]; simp)) rfl rfl rfl ?_)
    refine ws (st_po (po_faddr rfl (by exact fc_field_41_1_1)) rfl rfl rfl ?_)
    refine ws (st_po (po_load rfl (by exact fc_flat_3) (by rfl)) rfl rfl rfl ?_)
    refine ws (st_call (co_fn rfl rfl) (ref_In t.h 1 16) (by infer_instance) rfl rfl rfl ?_)
    rintro v10 _ ⟨rfl, rfl⟩
    try dsimp only [List.cons_append, List.nil_append]
    refine ws (st_po (po_not rfl) rfl rfl rfl ?_)
    refine ws (st_po (po_pick_f rfl rfl) rfl rfl rfl ?_)
    by_cases h2 : 1 ≤ t.h ∧ t.h ≤ 16
    · skip
      refine ws (st_po (po_bf (po_move rfl) (by simp only [decide_eq_true h2]; simp)) rfl rfl rfl ?_)
      have hb := mul_1k (a := t.w) (b := t.h) (by omega) (by omega) (by omega) (by omega)
      refine ws (st_po (po_faddr rfl (by exact fc_field_41_2_2)) rfl rfl rfl ?_)
      refine ws (st_po (po_load rfl (by exact fc_flat_22) (by rfl)) rfl rfl rfl ?_)
      refine ws (st_po (po_len rfl (by exact fc_slice_22_5_1)) rfl rfl rfl ?_)
      refine ws (st_po (po_faddr rfl (by exact fc_field_41_0_0)) rfl rfl rfl ?_)
      refine ws (st_po (po_load rfl (by exact fc_flat_3) (by rfl)) rfl rfl rfl ?_)
      refine ws (st_po (po_faddr rfl (by exact fc_field_41_1_1)) rfl rfl rfl ?_)
      refine ws (st_po (po_load rfl (by exact fc_flat_3) (by rfl)) rfl rfl rfl ?_)
      refine ws (st_po (po_mul' rfl rfl (by omega) (by omega)) rfl rfl rfl ?_)
      refine ws (st_po (po_ne rfl rfl) rfl rfl rfl ?_)
      refine ws (st_po (po_pick_f rfl rfl) rfl rfl rfl ?_)
      refine s_nil ?_
      refine at_then_wp ?_
      first | refine r_cond_not rfl ?_ ?_ | refine r_cond_dec rfl ?_ ?_ | refine r_cond rfl ?_ ?_
      · intro h3
        refine r_seq ?_
        refine r_reg ?_
        refine ws (st_po (po_assign rfl) rfl rfl rfl ?_)
        refine s_nil ?_
        refine at_then_wp ?_
        refine r_ret ?_
        refine at_then_ret ?_
        refine at_ret1 rfl (rv_tmp rfl) ⟨_, ⟨by rw [decide_eq_false (fun k => h3 k.2.2.1)], rfl⟩, ?_⟩
        try dsimp only [List.cons_append, List.nil_append]
        exact ent
      · intro h3
        refine r_skip ?_
        refine at_then_wp ?_
        refine r_seq ?_
        refine r_reg ?_
        refine ws (st_po (po_faddr rfl (by exact fc_field_41_2_2)) rfl rfl rfl ?_)
        refine ws (st_po (po_load rfl (by exact fc_flat_22) (by rfl)) rfl rfl rfl ?_)
        refine ws (st_call (co_fn rfl rfl) (ref_full tc t.c hl) (by infer_instance) rfl rfl rfl ?_)
        rintro v26 _ ⟨rfl, rfl⟩
        try dsimp only [List.cons_append, List.nil_append]
        refine ws (st_po (po_assign rfl) rfl rfl rfl ?_)
        refine s_nil ?_
        refine at_then_wp ?_
        refine r_ret ?_
        refine at_ret1 rfl (rv_tmp rfl) ⟨_, ⟨by by_cases h4 : (0 : Int) ∈ t.c; (rw [decide_eq_true h4, decide_eq_false (fun k => k.2.2.2 h4)]; rfl); (rw [decide_eq_false h4, decide_eq_true (show MayT t from ⟨h1, h2, Classical.not_not.1 h3, h4⟩)]; rfl), rfl⟩, ?_⟩
        try dsimp only [List.cons_append, List.nil_append]
        exact ent
    · skip
      refine ws (st_po (po_bt (po_move rfl) (by simp only [decide_eq_false h2]; simp)) rfl rfl rfl ?_)
      refine ws (st_no rfl rfl rfl ?_)
      refine ws (st_no rfl rfl rfl ?_)
      refine ws (st_no rfl rfl rfl ?_)
      refine ws (st_no rfl rfl rfl ?_)
      refine ws (st_no rfl rfl rfl ?_)
      refine ws (st_no rfl rfl rfl ?_)
      refine ws (st_no rfl rfl rfl ?_)
      refine ws (st_no rfl rfl rfl ?_)
      refine ws (st_no rfl rfl rfl ?_)
      refine ws (st_po (po_pick_t rfl rfl) rfl rfl rfl ?_)
      refine s_nil ?_
      refine at_then_wp ?_
      refine r_cond_t rfl rfl ?_
      refine r_seq ?_
      refine r_reg ?_
      refine ws (st_po (po_assign rfl) rfl rfl rfl ?_)
      refine s_nil ?_
      refine at_then_wp ?_
      refine r_ret ?_
      refine at_then_ret ?_
      refine at_ret1 rfl (rv_tmp rfl) ⟨_, ⟨by rw [decide_eq_false (fun k => h2 k.2.1)], rfl⟩, ?_⟩
      try dsimp only [List.cons_append, List.nil_append]
      exact ent
  · skip
    refine ws (st_po (po_bt (po_move rfl) (by simp only [decide_eq_false h1]; simp)) rfl rfl rfl ?_)
    refine ws (st_no rfl rfl rfl ?_)
    refine ws (st_no rfl rfl rfl ?_)
    refine ws (st_no rfl rfl rfl ?_)
    refine ws (st_no rfl rfl rfl ?_)
    refine ws (st_po (po_pick_t rfl rfl) rfl rfl rfl ?_)
    refine ws (st_po (po_move rfl) rfl rfl rfl ?_)
    refine ws (st_no rfl rfl rfl ?_)
    refine ws (st_no rfl rfl rfl ?_)
    refine ws (st_no rfl rfl rfl ?_)
    refine ws (st_no rfl rfl rfl ?_)
    refine ws (st_no rfl rfl rfl ?_)
    refine ws (st_no rfl rfl rfl ?_)
    refine ws (st_no rfl rfl rfl ?_)
    refine ws (st_no rfl rfl rfl ?_)
    refine ws (st_no rfl rfl rfl ?_)
    refine ws (st_po (po_pick_t rfl rfl) rfl rfl rfl ?_)
    refine s_nil ?_
    refine at_then_wp ?_
    refine r_cond_t rfl rfl ?_
    refine r_seq ?_
    refine r_reg ?_
    refine ws (st_po (po_assign rfl) rfl rfl rfl ?_)
    refine s_nil ?_
    refine at_then_wp ?_
    refine r_ret ?_
    refine at_then_ret ?_
    refine at_ret1 rfl (rv_tmp rfl) ⟨_, ⟨by rw [decide_eq_false (fun k => h1 k.1)], rfl⟩, ?_⟩
    try dsimp only [List.cons_append, List.nil_append]
    exact ent
end Hd
end
section
namespace Hd
set_option maxRecDepth 100000
open Go

theorem ref_Near (tc : Value) (t : Tile) (l k : Int) (hl : t.c.length ≤ 2^30) (hm : MayT t) (h0 : 0 ≤ l ∧ l < t.c.length) : Spec PP 54 #[tileV tc t, .int .i64 l, .int .i64 k] [Sl eB tc t.c] (fun v M => v = .int .i64 (stepN t.w t.h l k) ∧ M = [Sl eB tc t.c]) := by
  refine spec_of (Go.Proofs.Tryz.func54) rfl rfl rfl (by exact fc_enters_54) ?_
  intro g F
  try dsimp only [List.cons_append, List.nil_append]
  refine r_seq ?_
  refine r_reg ?_
  refine ws (st_xo (xo_box rfl rfl) rfl rfl rfl ?_)
  rintro _ _ ⟨b3, rfl, rfl⟩
  refine ws (st_po (po_assign rfl) rfl rfl rfl ?_)
  refine s_nil ?_
  refine at_then_wp ?_
  refine r_seq ?_
  refine r_seq ?_
  refine r_reg ?_
  refine ws (st_po (po_loada rfl (by exact fc_agg_41_3) (by rfl)) rfl rfl rfl ?_)
  refine ws (st_call (co_fn rfl rfl) (ref_MayTile tc t hl) (by infer_instance) rfl rfl rfl ?_)
  rintro v8 _ ⟨rfl, rfl⟩
  try dsimp only [List.cons_append, List.nil_append]
  refine ws (st_po (po_not rfl) rfl rfl rfl ?_)
  refine ws (st_po (po_bf (po_move rfl) (by simp [hm])) rfl rfl rfl ?_)
  refine ws (st_po (po_move rfl) rfl rfl rfl ?_)
  refine ws (st_po (po_faddr rfl (by exact fc_field_41_2_2)) rfl rfl rfl ?_)
  refine ws (st_po (po_load rfl (by exact fc_flat_22) (by rfl)) rfl rfl rfl ?_)
  refine ws (st_po (po_len rfl (by exact fc_slice_22_5_1)) rfl rfl rfl ?_)
  refine ws (st_po (po_sub' rfl rfl (by omega) (by omega)) rfl rfl rfl ?_)
  refine ws (st_call (co_fn rfl rfl) (ref_In l 0 (t.c.length - 1)) (by infer_instance) rfl rfl rfl ?_)
  rintro v16 _ ⟨rfl, rfl⟩
  try dsimp only [List.cons_append, List.nil_append]
  refine ws (st_po (po_not rfl) rfl rfl rfl ?_)
  refine ws (st_po (po_pick_f rfl rfl) rfl rfl rfl ?_)
  refine s_nil ?_
  refine at_then_wp ?_
  first | refine r_dec_f rfl (by omega) ?_ | refine r_nd_f rfl (by omega) ?_ | refine r_cond_f rfl (by omega) ?_
  refine r_skip ?_
  refine at_then_wp ?_
  refine r_seq ?_
  refine r_reg ?_
  refine ws (st_po (po_faddr rfl (by exact fc_field_41_0_0)) rfl rfl rfl ?_)
  refine ws (st_po (po_load rfl (by exact fc_flat_3) (by rfl)) rfl rfl rfl ?_)
  refine ws (st_po (po_faddr rfl (by exact fc_field_41_1_1)) rfl rfl rfl ?_)
  refine ws (st_po (po_load rfl (by exact fc_flat_3) (by rfl)) rfl rfl rfl ?_)
  refine ws (st_po (po_move rfl) rfl rfl rfl ?_)
  refine ws (st_po (po_move rfl) rfl rfl rfl ?_)
  refine ws (st_call (co_fn rfl rfl) (ref_Step t.w t.h l k) (by infer_instance) rfl rfl rfl ?_)
  rintro v25 _ ⟨rfl, rfl⟩
  try dsimp only [List.cons_append, List.nil_append]
  refine ws (st_po (po_assign rfl) rfl rfl rfl ?_)
  refine s_nil ?_
  refine at_then_wp ?_
  refine r_ret ?_
  refine at_ret1 rfl (rv_tmp rfl) ⟨_, ⟨rfl, rfl⟩, ?_⟩
  try dsimp only [List.cons_append, List.nil_append]
  exact ent

theorem seed_ext {a b : List Seed} {i j : Nat} {hi : i < a.length} {hj : j < b.length} (h : a[i].cell = b[j].cell ∧ a[i].side = b[j].side ∧ a[i].key = b[j].key) : a[i] = b[j] := by
  generalize a[i] = x at *
  generalize b[j] = y at *
  cases x; cases y; simp_all
theorem ref_SameSeeds (av bv : Value) (a b : List Seed) (hl : a.length ≤ 2^30) : Spec PP 15 #[av, bv] [Sl eS av a, Sl eS bv b] (fun v M => v = .bool (decide (a = b)) ∧ M = [Sl eS av a, Sl eS bv b]) := by
  refine spec_of (Go.Proofs.Tryz.func15) rfl rfl rfl (by exact fc_enters_15) ?_
  intro g F
  try dsimp only [List.cons_append, List.nil_append]
  refine r_seq ?_
  refine r_reg ?_
  refine ws (st_po (po_assign rfl) rfl rfl rfl ?_)
  refine s_nil ?_
  refine at_then_wp ?_
  refine r_seq ?_
  refine r_seq ?_
  refine r_reg ?_
  refine ws (st_po (po_move rfl) rfl rfl rfl ?_)
  refine ws (st_po (po_len rfl (by exact fc_slice_32_45_3)) rfl rfl rfl ?_)
  refine ws (st_po (po_move rfl) rfl rfl rfl ?_)
  refine ws (st_po (po_len rfl (by exact fc_slice_32_45_3)) rfl rfl rfl ?_)
  refine ws (st_po (po_ne rfl rfl) rfl rfl rfl ?_)
  refine s_nil ?_
  refine at_then_wp ?_
  first | refine r_cond_not rfl ?_ ?_ | refine r_cond_dec rfl ?_ ?_ | refine r_cond rfl ?_ ?_
  · intro h0
    refine r_seq ?_
    refine r_reg ?_
    refine ws (st_po (po_assign rfl) rfl rfl rfl ?_)
    refine s_nil ?_
    refine at_then_wp ?_
    refine r_ret ?_
    refine at_then_ret ?_
    refine at_ret1 rfl (rv_tmp rfl) ⟨_, ⟨by rw [decide_eq_false (fun e => h0 (by rw [e]))], rfl⟩, ?_⟩
    try dsimp only [List.cons_append, List.nil_append]
    exact ent
  · intro h0
    refine r_skip ?_
    refine at_then_wp ?_
    refine r_seq ?_
    refine r_seq ?_
    refine r_reg ?_
    refine ws (st_po (po_assign rfl) rfl rfl rfl ?_)
    refine s_nil ?_
    refine at_then_wp ?_
    refine r_block ?_
    refine r_loop (S := Nat) (fun k => [(5, .int .i64 k)]) [(0, _), (1, _)] (fun k => [Sl eS av a, Sl eS bv b, F]) (fun k => k ≤ a.length ∧ a.length = b.length ∧ a.take k = b.take k) (fun k => a.length - k) (0) (And.intro rfl (And.intro rfl (trivial))) (And.intro rfl (trivial)) (⟨by omega, by omega, by simp⟩) ent ?_
    rintro k ⟨hk, hll, hne⟩
    try dsimp only [List.cons_append, List.nil_append]
    refine r_seq ?_
    refine r_seq ?_
    refine r_reg ?_
    refine ws (st_po (po_move rfl) rfl rfl rfl ?_)
    refine ws (st_po (po_move rfl) rfl rfl rfl ?_)
    refine ws (st_po (po_len rfl (by exact fc_slice_32_45_3)) rfl rfl rfl ?_)
    refine ws (st_po (po_lt rfl rfl) rfl rfl rfl ?_)
    refine s_nil ?_
    refine at_then_wp ?_
    first | refine r_cond_not rfl ?_ ?_ | refine r_cond_dec rfl ?_ ?_ | refine r_cond rfl ?_ ?_
    · intro hlt
      refine r_skip ?_
      refine at_then_wp ?_
      refine r_seq ?_
      refine r_block ?_
      refine r_seq ?_
      refine r_ord [] _ [(0, 1), (1, 1), (2, 0), (3, 0), (4, 1), (5, 1), (6, 0), (7, 0), (8, 1)] fc_mixed (by kernel_rfl) (fun _ h => h) ?_
      refine o_fr rfl (po_move rfl) rfl rfl rfl ?_
      refine o_fr rfl (po_move rfl) rfl rfl rfl ?_
      refine o_rd rfl (po_iaddr rfl rfl (by exact fc_slice_32_45_3) (by first | omega | (simp only [List.length_nil, List.length_cons, List.length_append, List.length_replicate, List.length_set, List.length_map, List.length_take, List.length_drop]; omega)) (by first | omega | (simp only [List.length_nil, List.length_cons, List.length_append, List.length_replicate, List.length_set, List.length_map, List.length_take, List.length_drop]; omega))) (by first | exact fun _ h => h | exact ent) rfl rfl rfl ?_
      refine o_rd rfl (ld_eS rfl (List.getElem?_eq_getElem (by first | omega | (simp only [List.length_nil, List.length_cons, List.length_append, List.length_replicate, List.length_set, List.length_map, List.length_take, List.length_drop]; omega))) (by exact fc_agg_45_3)) (by first | exact fun _ h => h | exact ent) rfl rfl rfl ?_
      refine o_fr rfl (po_move rfl) rfl rfl rfl ?_
      refine o_fr rfl (po_move rfl) rfl rfl rfl ?_
      refine o_rd rfl (po_iaddr rfl rfl (by exact fc_slice_32_45_3) (by first | omega | (simp only [List.length_nil, List.length_cons, List.length_append, List.length_replicate, List.length_set, List.length_map, List.length_take, List.length_drop]; omega)) (by first | omega | (simp only [List.length_nil, List.length_cons, List.length_append, List.length_replicate, List.length_set, List.length_map, List.length_take, List.length_drop]; omega))) (by first | exact fun _ h => h | exact ent) rfl rfl rfl ?_
      refine o_rd rfl (ld_eS rfl (List.getElem?_eq_getElem (by first | omega | (simp only [List.length_nil, List.length_cons, List.length_append, List.length_replicate, List.length_set, List.length_map, List.length_take, List.length_drop]; omega))) (by exact fc_agg_45_3)) (by first | exact fun _ h => h | exact ent) rfl rfl rfl ?_
      refine o_fr rfl (po_st3ne rfl rfl (by exact fc_st3_45)) rfl rfl rfl ?_
      refine o_nil ?_
      refine at_then_wp ?_
      first | refine r_cond_not rfl ?_ ?_ | refine r_cond_dec rfl ?_ ?_ | refine r_cond rfl ?_ ?_
      · intro heq
        refine r_seq ?_
        refine r_reg ?_
        refine ws (st_po (po_assign rfl) rfl rfl rfl ?_)
        refine s_nil ?_
        refine at_then_wp ?_
        refine r_ret ?_
        refine at_block_ret ?_
        refine at_then_ret ?_
        refine at_then_ret ?_
        refine at_block_ret ?_
        refine at_then_ret ?_
        simp only [Int.toNat_natCast] at heq
        refine at_ret1 rfl (rv_tmp rfl) ⟨_, ⟨by rw [decide_eq_false (fun e => heq (by subst e; exact ⟨rfl, rfl, rfl⟩))], rfl⟩, ?_⟩
        try dsimp only [List.cons_append, List.nil_append]
        exact ent
      · intro heq
        refine r_skip ?_
        refine at_block_normal ?_
        refine at_then_wp ?_
        refine r_reg ?_
        refine ws (st_po (po_move rfl) rfl rfl rfl ?_)
        refine ws (st_po (po_add' rfl rfl (by omega) (by omega)) rfl rfl rfl ?_)
        refine ws (st_po (po_assign rfl) rfl rfl rfl ?_)
        refine s_nil ?_
        simp only [Int.toNat_natCast] at heq
        exact at_again (k + 1) (And.intro rfl (trivial)) (And.intro rfl (And.intro rfl (trivial))) (⟨by omega, hll, by rw [take_snoc a k (by omega), take_snoc b k (by omega), hne, seed_ext heq]⟩) (by omega) ent
    · intro hlt
      refine r_exit ?_
      refine at_then_exit ?_
      refine at_then_exit ?_
      refine at_block_here ?_
      refine at_then_wp ?_
      refine r_seq ?_
      refine r_reg ?_
      refine ws (st_po (po_assign rfl) rfl rfl rfl ?_)
      refine s_nil ?_
      refine at_then_wp ?_
      refine r_ret ?_
      refine at_ret1 rfl (rv_tmp rfl) ⟨_, ⟨by rw [decide_eq_true (by rw [List.take_of_length_le (by omega), List.take_of_length_le (by omega)] at hne; exact hne)], rfl⟩, ?_⟩
      try dsimp only [List.cons_append, List.nil_append]
      exact ent
end Hd
end
section
namespace Hd
open Go Go.RowKit
/-! ## what came from outside: it is read, and stays -/
/-- v can be read as the list xs -/
def Reads {α : Type} (E : Enc α) (v : Value) (xs : List α) (h : Frag) : Prop :=
  (v = .slice none 0 0 ∧ xs = []) ∨ ∃ b off cap, v = .slice (some ⟨b, off, none⟩) xs.length cap ∧ xs.length ≤ cap ∧ ∀ j u, (xs.flatMap E.f)[j]? = some u → ∃ c T fr, h b = some (.cells c T fr) ∧ c[off + j]? = some u
/-- all that was there -/
def Old (h0 : Frag) : HP := fun h => ∀ b o, h0 b = some o → h b = some o
instance Rd.next {α : Type} (A B : HP) (L : List HP) (v : Value) (E : Enc α) (xs : List α) [m : Rd (B :: L) v α E xs] : Rd (A :: B :: L) v α E xs := ⟨fun h hs => m.out h (sat_drop hs)⟩
theorem rd_only {α : Type} {A : HP} {L : List HP} {v : Value} {E : Enc α} {xs : List α} (m : Rd [A] v α E xs) : Rd (A :: L) v α E xs := ⟨fun h hs => by
  obtain ⟨h1, h2, j, ha, hl⟩ := hs
  exact m.out h ⟨h1, h2, j, ha, trivial⟩⟩
instance (priority := low) Rd.only {α : Type} (A B : HP) (L : List HP) (v : Value) (E : Enc α) (xs : List α) [m : Rd [A] v α E xs] : Rd (A :: B :: L) v α E xs := rd_only m
/-- a slice that came from outside -/
def Ins {α : Type} (h0 : Frag) (E : Enc α) (v : Value) (xs : List α) : HP := fun h => Old h0 h ∧ Reads E v xs h0
theorem Ins.rd {α : Type} {h0 : Frag} {E : Enc α} {v : Value} {xs : List α} : Rd [Ins h0 E v xs] v α E xs := ⟨fun h hs => by
  obtain ⟨h1, h2, j, ⟨hk, hr⟩, -⟩ := hs
  rcases hr with a | ⟨b, off, cap, e1, e2, e3⟩
  · exact .inl a
  · refine .inr ⟨b, off, cap, e1, e2, fun i u hu => ?_⟩
    obtain ⟨c, T, fr, e4, e5⟩ := e3 i u hu
    exact ⟨c, T, fr, j.sub_left b _ (hk b _ e4), e5⟩⟩
theorem Fit.below {g : Gl} {A : HP} {L : List HP} {w w' : World} (hg : g = ⟨w.os, w.tape, w.output, w.drawn⟩) (hA : ∀ h, A h → Old (frag w) h) (f : Fit g (A :: L) w') : Below w.heap.size w w' := by
  subst hg
  obtain ⟨h1, h2, j, ha, -⟩ := f.sat
  have hk : ∀ b o, w.heap[b]? = some o → w'.heap[b]? = some o := fun b o e => j.sub_left b o (hA _ ha b o e)
  refine ⟨f.os, f.tape, f.output, ?_, fun k hlt => ?_⟩
  · rcases Nat.lt_or_ge w'.heap.size w.heap.size with hlt | hge
    · have := hk w'.heap.size w.heap[w'.heap.size] (by simp [hlt])
      simp at this
    · exact hge
  · rw [hk k w.heap[k] (by simp [hlt])]; simp [hlt]
end Hd
end
