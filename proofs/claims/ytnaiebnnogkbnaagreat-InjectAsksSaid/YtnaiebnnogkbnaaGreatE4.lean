/- Contracts of functions of the program, and the laws of memory that they are proved with: part 4. -/
import Derived.Test.YtnaiebnnogkbnaaGreatE3
set_option linter.unusedVariables false
set_option linter.unusedSimpArgs false
section
namespace Hd
set_option maxRecDepth 100000
open Go

/-- 8.1, of one seed, as the document says it -/
def RefSd (t : Tile) (s : Seed) : Prop := (0 ≤ s.cell ∧ s.cell < t.c.length) ∧ gAt t.c s.cell ≠ 255 ∧ (0 ≤ s.key ∧ s.key ≤ 1073741824) ∧ (0 ≤ s.side ∧ s.side ≤ 4) ∧ (s.side ≠ 4 → stepN t.w t.h s.cell s.side < 0)
theorem ref_MaySeeds (tc lv : Value) (t : Tile) (l : List Seed) (hm : MayT t) (hl : t.c.length ≤ 2^30) (hll : l.length ≤ 2^30) (hs : ∀ s ∈ l, RefSd t s) :
    Spec PP 22 #[tileV tc t, lv] [Sl eB tc t.c, Sl eS lv l] (fun v M => v = .bool true ∧ M = [Sl eB tc t.c, Sl eS lv l]) := by
  refine spec_of (Go.Proofs.Tryz.func22) rfl rfl rfl (by exact fc_enters_22) ?_
  intro g F
  try dsimp only [ca, na, GridS.l, GridS.p, MeshS.l, MeshS.lF, MeshS.p, FinderS.l, FinderS.p, FinderS.lF, RouteS.l, RouteS.p, GridS.lT, RouteS.lT]
  refine Sq (Rg ?_)
  refine Wx (xo_box rfl rfl) ?_
  rintro _ _ ⟨b2, rfl, rfl⟩
  refine rp 1 rfl ?_
  refine Sn (Aw (Sq (Sq (Rg ?_))))
  refine Wp (po_loada rfl (by exact fc_agg_41_3) (by rfl)) ?_
  refine Wc (co_fn rfl rfl) (ref_MayTile tc t hl) ?_
  rintro v8 _ ⟨rfl, rfl⟩
  try dsimp only [ca, na, GridS.l, GridS.p, MeshS.l, MeshS.lF, MeshS.p, FinderS.l, FinderS.p, FinderS.lF, RouteS.l, RouteS.p, GridS.lT, RouteS.lT]
  refine Wp (po_not rfl) ?_
  refine Sn (Aw ?_)
  first | refine r_dec_f rfl (by simp [hm]) ?_ | refine r_nd_f rfl (by simp [hm]) ?_ | refine r_cond_f rfl (by simp [hm]) ?_
  refine Sk (Aw (Sq (Sq (Rg ?_))))
  refine rp 1 rfl ?_
  refine Sn (Aw (Bk ?_))
  refine r_loop (S := Nat) (fun k => [(5, .int .i64 k)]) [(1, _), (2, _)] (fun k => [Sl eB tc t.c, Sl eS lv l, Blk b2 41 [.int .i64 t.w, .int .i64 t.h, tc], F]) (fun k => k ≤ l.length) (fun k => l.length - k) (0) (And.intro rfl (And.intro rfl (trivial))) (And.intro rfl (trivial)) (by omega) ent ?_
  rintro k hk
  try dsimp only [ca, na, GridS.l, GridS.p, MeshS.l, MeshS.lF, MeshS.p, FinderS.l, FinderS.p, FinderS.lF, RouteS.l, RouteS.p, GridS.lT, RouteS.lT]
  refine Sq (Sq (Rg ?_))
  refine rp 2 rfl ?_
  refine Wp (po_len rfl (by exact fc_slice_32_45_3)) ?_
  refine Wp (po_lt rfl rfl) ?_
  refine Sn (Aw ?_)
  refine Rc rfl ?_ ?_
  ·skip
   intro hlt
   obtain ⟨s, hse⟩ : ∃ s, l[(k : Int).toNat]'(by omega) = s := ⟨_, rfl⟩
   have hr := hs s (hse ▸ List.getElem_mem _)
   unfold RefSd at hr
   have hg : gAt t.c s.cell = t.c[s.cell.toNat]'(by omega) := gAt_get (by omega)
   refine Sk (Aw (Sq (Bk (Sq (Rg ?_)))))
   refine rp 2 rfl ?_
   refine Wp (po_iaddr rfl rfl (by exact fc_slice_32_45_3) (by first | omega | (simp <;> omega)) (by first | omega | (simp <;> omega))) ?_
   refine Wp (ld_eS rfl (List.getElem?_eq_getElem (by first | omega | (simp <;> omega))) (by exact fc_agg_45_3)) ?_
   refine Wx (xo_alloc (by exact fc_zero_45)) ?_
   rintro _ _ ⟨b6, rfl, rfl⟩
   refine Ws (so_storea1 rfl rfl (by exact fc_agg_45_3) rfl rfl) ?_
   refine Sn (Aw (Sq (Sq ?_)))
   rw [hse]
   refine Rg ?_
   refine Wp (po_faddr rfl (by exact fc_field_45_0_0)) ?_
   refine Wp (po_load rfl (by exact fc_flat_3) (by rfl)) ?_
   refine Wp (po_faddr rfl (by exact fc_field_41_2_2)) ?_
   refine Wp (po_load rfl (by exact fc_flat_22) (by rfl)) ?_
   refine Wp (po_len rfl (by exact fc_slice_22_5_1)) ?_
   refine Wp (po_sub' rfl rfl (by omega) (by omega)) ?_
   refine Wc (co_fn rfl rfl) (ref_In s.cell 0 ((t.c.length : Int) - 1)) ?_
   rintro v26 _ ⟨rfl, rfl⟩
   try dsimp only [ca, na, GridS.l, GridS.p, MeshS.l, MeshS.lF, MeshS.p, FinderS.l, FinderS.p, FinderS.lF, RouteS.l, RouteS.p, GridS.lT, RouteS.lT]
   refine Wp (po_not rfl) ?_
   refine Wp (po_bf (po_move rfl) (by rw [decide_eq_true (by omega)]; rfl)) ?_
   refine Wp (po_faddr rfl (by exact fc_field_41_2_2)) ?_
   refine Wp (po_load rfl (by exact fc_flat_22) (by rfl)) ?_
   refine Wp (po_faddr rfl (by exact fc_field_45_0_0)) ?_
   refine Wp (po_load rfl (by exact fc_flat_3) (by rfl)) ?_
   refine Wp (po_iaddr rfl rfl (by exact fc_slice_22_5_1) (by first | omega | (simp <;> omega)) (by first | omega | (simp <;> omega))) ?_
   refine Wp (po_load_sl rfl (List.getElem?_eq_getElem (by first | omega | (simp <;> omega))) (by exact fc_flat_5) (by rfl)) ?_
   refine Wp (po_eq rfl rfl) ?_
   refine rp 1 rfl ?_
   refine Wp (po_bf (po_move rfl) (decide_eq_false (by rw [← hg]; exact hr.2.1))) ?_
   refine Wp (po_faddr rfl (by exact fc_field_45_2_2)) ?_
   refine Wp (po_load rfl (by exact fc_flat_3) (by rfl)) ?_
   refine Wc (co_fn rfl rfl) (ref_In s.key 0 1073741824) ?_
   rintro v40 _ ⟨rfl, rfl⟩
   try dsimp only [ca, na, GridS.l, GridS.p, MeshS.l, MeshS.lF, MeshS.p, FinderS.l, FinderS.p, FinderS.lF, RouteS.l, RouteS.p, GridS.lT, RouteS.lT]
   refine Wp (po_not rfl) ?_
   refine rp 1 rfl ?_
   refine Wp (po_bf (po_move rfl) (by rw [decide_eq_true (by omega)]; rfl)) ?_
   refine Wp (po_faddr rfl (by exact fc_field_45_1_1)) ?_
   refine Wp (po_load rfl (by exact fc_flat_3) (by rfl)) ?_
   refine Wc (co_fn rfl rfl) (ref_In s.side 0 4) ?_
   rintro v46 _ ⟨rfl, rfl⟩
   try dsimp only [ca, na, GridS.l, GridS.p, MeshS.l, MeshS.lF, MeshS.p, FinderS.l, FinderS.p, FinderS.lF, RouteS.l, RouteS.p, GridS.lT, RouteS.lT]
   refine Wp (po_not rfl) ?_
   refine rp 1 rfl ?_
   refine Sn (Aw ?_)
   first | refine r_dec_f rfl (by rw [decide_eq_true (by omega)]; simp) ?_ | refine r_nd_f rfl (by rw [decide_eq_true (by omega)]; simp) ?_ | refine r_cond_f rfl (by rw [decide_eq_true (by omega)]; simp) ?_
   refine Sk (Aw (Sq (Rg ?_)))
   refine Wp (po_faddr rfl (by exact fc_field_45_1_1)) ?_
   refine Wp (po_load rfl (by exact fc_flat_3) (by rfl)) ?_
   refine Wp (po_ne rfl rfl) ?_
   by_cases h4 : s.side ≠ 4
   ·skip
    refine ws (st_po (po_bt (po_move rfl) (decide_eq_true h4)) rfl rfl rfl ?_)
    refine Wp (po_loada rfl (by exact fc_agg_41_3) (by rfl)) ?_
    refine Wp (po_faddr rfl (by exact fc_field_45_0_0)) ?_
    refine Wp (po_load rfl (by exact fc_flat_3) (by rfl)) ?_
    refine Wp (po_faddr rfl (by exact fc_field_45_1_1)) ?_
    refine Wp (po_load rfl (by exact fc_flat_3) (by rfl)) ?_
    refine Wc (co_fn rfl rfl) (ref_Near tc t s.cell s.side hl hm hr.1) ?_
    rintro v58 _ ⟨rfl, rfl⟩
    try dsimp only [ca, na, GridS.l, GridS.p, MeshS.l, MeshS.lF, MeshS.p, FinderS.l, FinderS.p, FinderS.lF, RouteS.l, RouteS.p, GridS.lT, RouteS.lT]
    refine Wp (po_ge rfl rfl) ?_
    refine rp 1 rfl ?_
    refine Sn (Aw ?_)
    first | refine r_dec_f rfl (by have := hr.2.2.2.2 h4; omega) ?_ | refine r_nd_f rfl (by have := hr.2.2.2.2 h4; omega) ?_ | refine r_cond_f rfl (by have := hr.2.2.2.2 h4; omega) ?_
    refine Sk (Bn (Aw (Rg ?_)))
    refine rp 1 rfl ?_
    refine Wp (po_add' rfl rfl (by omega) (by omega)) ?_
    refine rp 1 rfl ?_
    refine Sn ?_
    exact at_again (k + 1) (And.intro rfl (trivial)) (And.intro rfl (And.intro rfl (trivial))) (by omega) (by omega) ent
   ·skip
    refine ws (st_po (po_bf (po_move rfl) (decide_eq_false h4)) rfl rfl rfl ?_)
    refine rp 8 rfl ?_
    refine Sn (Aw ?_)
    refine r_cond_f rfl rfl ?_
    refine Sk (Bn (Aw (Rg ?_)))
    refine rp 1 rfl ?_
    refine Wp (po_add' rfl rfl (by omega) (by omega)) ?_
    refine rp 1 rfl ?_
    refine Sn ?_
    exact at_again (k + 1) (And.intro rfl (trivial)) (And.intro rfl (And.intro rfl (trivial))) (by omega) (by omega) ent
  ·skip
   intro hlt
   refine Ex' (Ax (Ax (Bh (Aw (Sq (Rg ?_))))))
   refine rp 1 rfl ?_
   refine Sn (Aw (Rt ?_))
   refine at_ret1 rfl (rv_tmp rfl) ⟨_, ⟨rfl, rfl⟩, ?_⟩
   try dsimp only [ca, na, GridS.l, GridS.p, MeshS.l, MeshS.lF, MeshS.p, FinderS.l, FinderS.p, FinderS.lF, RouteS.l, RouteS.p, GridS.lT, RouteS.lT]
   exact ent
/-- what a sector is told may be told -/
theorem seedsG_may {g : GridS} (ok : GridOk g) {A : Int → Int} (hA : ∀ c, A c ≠ INF → 0 ≤ A c ∧ A c ≤ 255 * g.c.length) {t i : Int} (hi : IsS g.w g.h i) (ht : IsC g.w g.h t) {s : Seed} (hs : s ∈ seedsG g.w g.h g.c A t i) : RefSd (tileN g i) s := by
  have hlen := ok.len
  have hmul := may_mul ok.may
  unfold seedsG at hs
  rcases List.mem_append.1 hs with h | h
  · obtain ⟨c, k, hc, hci, hk, hn, hne, hAi, rfl⟩ := (mem_seedsO ok hi).1 h
    have hin : InS g.w g.h g.c i c := ⟨hc.1, hc.2, hci⟩
    have ho := local_opn ok hin
    have hcn := opn_cost ok hn.1
    have hAr := hA _ hAi
    refine ⟨⟨ho.1, ho.2.1⟩, ho.2.2, ⟨by dsimp only; omega, by dsimp only; omega⟩, ⟨by dsimp only; omega, by dsimp only; omega⟩, fun _ => ?_⟩
    dsimp only
    rcases Int.lt_or_le (stepN (tileN g i).w (tileN g i).h (localN g.w g.h c) k) 0 with h1 | h1
    · exact h1
    · have := (step_in hc.2 hk).2 (by rw [hci]; exact h1)
      rw [hci] at this
      exact absurd this.2 hne
  · split at h
    · rename_i h1
      rw [List.mem_singleton] at h
      subst h
      have hto : Opn g.c t := by
        refine ⟨ht.2.1, by have := ht.2.2; omega, ?_⟩
        rw [← cost_opn ok ht]; exact h1.2
      have ho := local_opn ok ⟨hto, ht, h1.1⟩
      exact ⟨⟨ho.1, ho.2.1⟩, ho.2.2, ⟨by dsimp only; omega, by dsimp only; omega⟩, ⟨by dsimp only; omega, by dsimp only; omega⟩, fun h => absurd rfl h⟩
    · cases h
theorem atN_le {g : GridS} (ok : GridOk g) {r : RouteS} (hr : RouteOk g r) (c : Int) (h : atN r c ≠ INF) : 0 ≤ atN r c ∧ atN r c ≤ 255 * g.c.length := by
  have hI : INF = 1099511627776 := rfl
  rw [hr.at ok] at h ⊢
  split at h
  · rename_i hn
    rw [if_pos hn]
    have := (fl_is ok r.goal).rng c
    exact fl_bound ok r.goal (by omega)
  · exact absurd rfl h
def own4 (s : Seed) : Bool := decide (s.side = 4)
theorem seedsO_no4 {g : GridS} (ok : GridOk g) {A : Int → Int} {i : Int} (hi : IsS g.w g.h i) : (seedsO g.w g.h g.c A i).countP own4 = 0 := by
  rw [List.countP_eq_zero]
  intro s hs
  obtain ⟨c, k, _, _, hk, _, _, _, rfl⟩ := (mem_seedsO ok hi).1 hs
  unfold own4
  simp only [decide_eq_true_eq]; omega
theorem seedsG_own {g : GridS} (ok : GridOk g) {A : Int → Int} {t i : Int} (hi : IsS g.w g.h i) : (seedsG g.w g.h g.c A t i).countP own4 = if sectorN g.w g.h t = i ∧ costN g.c t ≠ 255 then 1 else 0 := by
  unfold seedsG
  rw [List.countP_append, seedsO_no4 ok hi]
  split <;> simp [own4]
/-- what a seed tells -/
structure Tells (g : GridS) (A : Int → Int) (t i : Int) (s : Seed) : Prop where
  here : s.side = 4 → s.key = 0 ∧ globalN g.w g.h i s.cell = t
  over : s.side ≠ 4 → IsC g.w g.h (stepN g.w g.h (globalN g.w g.h i s.cell) s.side) ∧ s.key = gAt g.c (stepN g.w g.h (globalN g.w g.h i s.cell) s.side) + A (stepN g.w g.h (globalN g.w g.h i s.cell) s.side)
theorem seedsG_tells {g : GridS} (ok : GridOk g) {A : Int → Int} {t i : Int} (hi : IsS g.w g.h i) (ht : IsC g.w g.h t) {s : Seed} (hs : s ∈ seedsG g.w g.h g.c A t i) : Tells g A t i s := by
  unfold seedsG at hs
  rcases List.mem_append.1 hs with h | h
  · obtain ⟨c, k, hc, hci, hk, hn, hne, hAi, rfl⟩ := (mem_seedsO ok hi).1 h
    have e := global_local hc.2
    rw [hci] at e
    exact ⟨fun h4 => absurd h4 (by dsimp only; omega), fun _ => by dsimp only; rw [e]; exact ⟨hn.2, rfl⟩⟩
  · split at h
    · rename_i h1
      rw [List.mem_singleton] at h
      subst h
      have e := global_local ht
      rw [h1.1] at e
      exact ⟨fun _ => ⟨rfl, e⟩, fun h4 => absurd rfl h4⟩
    · cases h
theorem take_cnt {l : List Seed} {k : Nat} (h : k < l.length) : (l.take (k + 1)).countP own4 = (l.take k).countP own4 + if own4 l[k] = true then 1 else 0 := by
  rw [take_snoc l k h, List.countP_append]; simp [List.countP_cons]
theorem law16_Sides (K : HP) (w h : Int) (cv : Value) (c : List Int) [Rd [K] cv Int eB c] (hc : ∀ x ∈ c, 0 ≤ x ∧ x ≤ 255) (goal sector : Int) :
    Spec PP 4 #[.int .i64 w, .int .i64 h, cv, .int .i64 goal, .int .i64 sector] [K] (fun v M => v = .bool true ∧ M = [K]) := by
  refine spec_of (Go.Proofs.Tryz.func4) rfl rfl rfl (by exact fc_enters_4) ?_
  intro g F
  try dsimp only [ca, na, GridS.l, GridS.p, MeshS.l, MeshS.lF, MeshS.p, FinderS.l, FinderS.p, FinderS.lF, RouteS.l, RouteS.p, GridS.lT, RouteS.lT]
  refine Sq (Rg ?_)
  refine rp 1 rfl ?_
  refine Sn (Aw (Sq (Rg ?_)))
  refine rp 3 rfl ?_
  refine Wc (co_fn rfl rfl) (ref_Made K w h cv c hc) ?_
  rintro v27 _ ⟨W, H, mv, C, rfl, rfl, hm⟩
  try dsimp only [ca, na, GridS.l, GridS.p, MeshS.l, MeshS.lF, MeshS.p, FinderS.l, FinderS.p, FinderS.lF, RouteS.l, RouteS.p, GridS.lT, RouteS.lT]
  have hmm := may_mul hm.may.1
  have hml := hm.len
  have hcn := made_cnt hm
  refine Wx (xo_alloc (by exact fc_zero_24)) ?_
  rintro _ _ ⟨b11, rfl, rfl⟩
  refine Ws (so_storea1 rfl rfl (by exact fc_agg_24_3) rfl rfl) ?_
  refine Sn (Aw (Sq (Rg ?_)))
  refine rp 1 rfl ?_
  refine Wp (po_faddr rfl (by exact fc_field_24_2_2)) ?_
  refine Wp (po_load rfl (by exact fc_flat_22) (by rfl)) ?_
  refine Wp (po_len rfl (by exact fc_slice_22_5_1)) ?_
  refine Wp (po_sub' rfl rfl (by omega) (by omega)) ?_
  refine Wc (co_fn rfl rfl) (ref_Within goal 0 ((C.length : Int) - 1) (by omega) (by omega) (by omega)) ?_
  rintro v33 _ ⟨rfl, rfl⟩
  try dsimp only [ca, na, GridS.l, GridS.p, MeshS.l, MeshS.lF, MeshS.p, FinderS.l, FinderS.p, FinderS.lF, RouteS.l, RouteS.p, GridS.lT, RouteS.lT]
  have htc := made_cell hm goal
  generalize 0 + goal % ((C.length : Int) - 1 - 0 + 1) = t at htc
  refine rp 1 rfl ?_
  refine Sn (Aw (Sq (Rg ?_)))
  refine Wp (po_loada rfl (by exact fc_agg_24_3) (by rfl)) ?_
  refine rp 1 rfl ?_
  refine Wc (co_fn rfl rfl) (law16_found W H mv C hm t htc) ?_
  rintro v37 _ ⟨f, r, rfl, rfl, ok, hw, hh, hcc, hep, hre, hg, hro, hvs⟩
  try dsimp only [ca, na, GridS.l, GridS.p, MeshS.l, MeshS.lF, MeshS.p, FinderS.l, FinderS.p, FinderS.lF, RouteS.l, RouteS.p, GridS.lT, RouteS.lT]
  refine rp 5 rfl ?_
  refine Sn (Aw (Sq (Sq (Rg ?_))))
  refine rp 1 rfl ?_
  refine Wp (po_peq rfl rfl (by exact fc_ptr_27)) ?_
  refine Sn (Aw ?_)
  first | refine r_dec_f rfl (by simp) ?_ | refine r_nd_f rfl (by simp) ?_ | refine r_cond_f rfl (by simp) ?_
  refine Sk (Aw (Sq (Rg ?_)))
  refine rp 1 rfl ?_
  refine Wp (po_faddr rfl (by exact fc_field_24_0_0)) ?_
  refine Wp (po_load rfl (by exact fc_flat_3) (by rfl)) ?_
  refine Wp (po_faddr rfl (by exact fc_field_24_1_1)) ?_
  refine Wp (po_load rfl (by exact fc_flat_3) (by rfl)) ?_
  refine Wc (co_fn rfl rfl) (ref_Count W H) ?_
  rintro v47 _ ⟨rfl, rfl⟩
  try dsimp only [ca, na, GridS.l, GridS.p, MeshS.l, MeshS.lF, MeshS.p, FinderS.l, FinderS.p, FinderS.lF, RouteS.l, RouteS.p, GridS.lT, RouteS.lT]
  refine Wp (po_sub' rfl rfl (by omega) (by omega)) ?_
  refine Wc (co_fn rfl rfl) (ref_Within sector 0 ((secsN W H).1 * (secsN W H).2 - 1) (by omega) (by omega) (by omega)) ?_
  rintro v49 _ ⟨rfl, rfl⟩
  try dsimp only [ca, na, GridS.l, GridS.p, MeshS.l, MeshS.lF, MeshS.p, FinderS.l, FinderS.p, FinderS.lF, RouteS.l, RouteS.p, GridS.lT, RouteS.lT]
  have his := made_sec hm sector
  generalize 0 + sector % ((secsN W H).1 * (secsN W H).2 - 1 - 0 + 1) = i at his
  refine rp 1 rfl ?_
  refine Sn (Aw (Sq (Rg ?_)))
  refine rp 2 rfl ?_
  refine Wc (co_fn rfl rfl) (grid_Tile f.m.g i ok (by rw [hw, hh]; exact his)) ?_
  rintro v53 _ ⟨tc, rfl, rfl⟩
  try dsimp only [ca, na, GridS.l, GridS.p, MeshS.l, MeshS.lF, MeshS.p, FinderS.l, FinderS.p, FinderS.lF, RouteS.l, RouteS.p, GridS.lT, RouteS.lT]
  refine rp 3 rfl ?_
  refine Wx (xo_alloc (by exact fc_zero_41)) ?_
  rintro _ _ ⟨b16, rfl, rfl⟩
  refine Ws (so_storea1 rfl rfl (by exact fc_agg_41_3) rfl rfl) ?_
  refine rp 1 rfl ?_
  refine Sn (Aw (Sq (Rg ?_)))
  refine rp 3 rfl ?_
  refine Wc (co_fn rfl rfl) (inject_Seeds f.m.g ok r hro.rng (by rw [hre, hep]) (by rw [hg, hw, hh]; exact htc) i) ?_
  rintro v59 _ ⟨ys, rfl, hp, hs⟩
  try dsimp only [ca, na, GridS.l, GridS.p, MeshS.l, MeshS.lF, MeshS.p, FinderS.l, FinderS.p, FinderS.lF, RouteS.l, RouteS.p, GridS.lT, RouteS.lT]
  have his' : IsS f.m.g.w f.m.g.h i := by rw [hw, hh]; exact his
  have htc' : IsC f.m.g.w f.m.g.h r.goal := by rw [hw, hh, hg]; exact htc
  have hyl : ys.length ≤ 1025 := by rw [hp.length_eq]; exact seedsG_len ..
  have htl : ∀ s ∈ ys, Tells f.m.g (atN r) t i s := fun s h => by have := seedsG_tells ok his' htc' (hp.mem_iff.1 h); rw [hg] at this; exact this
  have hmy : ∀ s ∈ ys, RefSd (tileN f.m.g i) s := fun s h => seedsG_may ok (fun c h2 => atN_le ok hro c h2) his' htc' (hp.mem_iff.1 h)
  have hpw : ys.Pairwise fun x y => ¬ (x.cell = y.cell ∧ x.side = y.side) := (hp.pairwise_iff (fun h1 h2 => h1 ⟨h2.1.symm, h2.2.symm⟩)).2 (seedsG_pw ok his')
  have hcnt : ys.countP own4 = if sectorN W H t = i ∧ costN C t ≠ 255 then 1 else 0 := by rw [hp.countP_eq, seedsG_own ok his', hw, hh, hcc, hg]
  refine rp 1 rfl ?_
  refine Sn (Aw (Sq (Rg ?_)))
  refine rp 1 rfl ?_
  refine Sn (Aw (Sq (Sq (Rg ?_))))
  refine rp 1 rfl ?_
  refine Sn (Aw (Bk ?_))
  refine r_loop (S := Nat) (fun k => [(19, .int .i64 ((ys.take k).countP own4 : Nat)), (20, .int .i64 k)]) [(11, _), (12, _), (14, _), (15, _), (16, _), (17, _), (18, _)] (fun k => Sl eS v59 ys :: Blk b16 41 [.int .i64 (tileN f.m.g i).w, .int .i64 (tileN f.m.g i).h, tc] :: Sl eB tc (tileN f.m.g i).c :: Blk b11 24 [.int .i64 W, .int .i64 H, mv] :: Sl eB mv C :: K :: r.lT [F]) (fun k => k ≤ ys.length) (fun k => ys.length - k) (0) (And.intro rfl (And.intro rfl (And.intro rfl (And.intro rfl (And.intro rfl (And.intro rfl (And.intro rfl (trivial)))))))) (And.intro rfl (And.intro rfl (trivial))) (by omega) ent ?_
  rintro k hk
  try dsimp only [ca, na, GridS.l, GridS.p, MeshS.l, MeshS.lF, MeshS.p, FinderS.l, FinderS.p, FinderS.lF, RouteS.l, RouteS.p, GridS.lT, RouteS.lT]
  have hcl : (ys.take k).countP own4 ≤ k := Nat.le_trans List.countP_le_length (by rw [List.length_take]; omega)
  refine Sq (Sq (Rg ?_))
  refine rp 2 rfl ?_
  refine Wp (po_len rfl (by exact fc_slice_32_45_3)) ?_
  refine Wp (po_lt rfl rfl) ?_
  refine Sn (Aw ?_)
  refine Rc rfl ?_ ?_
  ·skip
   intro hlt
   have hkl : k < ys.length := by omega
   have hkm : ys[(k : Int).toNat]'(by omega) ∈ ys := List.getElem_mem _
   have hT1 : (ys[(k : Int).toNat]'(by omega)).side = 4 → (ys[(k : Int).toNat]'(by omega)).key = 0 ∧ globalN W H i (ys[(k : Int).toNat]'(by omega)).cell = t := by have := (htl _ hkm).here; rw [hw, hh] at this; exact this
   have hT2 : (ys[(k : Int).toNat]'(by omega)).side ≠ 4 → IsC W H (stepN W H (globalN W H i (ys[(k : Int).toNat]'(by omega)).cell) (ys[(k : Int).toNat]'(by omega)).side) ∧ (ys[(k : Int).toNat]'(by omega)).key = gAt C (stepN W H (globalN W H i (ys[(k : Int).toNat]'(by omega)).cell) (ys[(k : Int).toNat]'(by omega)).side) + atN r (stepN W H (globalN W H i (ys[(k : Int).toNat]'(by omega)).cell) (ys[(k : Int).toNat]'(by omega)).side) := by have := (htl _ hkm).over; rw [hw, hh, hcc] at this; exact this
   refine Sk (Aw (Sq (Bk ?_)))
   refine r_joink (S := Unit) (fun _ => [(19, .int .i64 ((ys.take (k + 1)).countP own4 : Nat))]) [(11, _), (12, _), (14, _), (15, _), (16, _), (17, _), (18, _), (20, _)] (fun _ => Sl eS v59 ys :: Blk b16 41 [.int .i64 (tileN f.m.g i).w, .int .i64 (tileN f.m.g i).h, tc] :: Sl eB tc (tileN f.m.g i).c :: Blk b11 24 [.int .i64 W, .int .i64 H, mv] :: Sl eB mv C :: K :: r.lT [F]) (fun _ => True) (And.intro rfl (And.intro rfl (And.intro rfl (And.intro rfl (And.intro rfl (And.intro rfl (And.intro rfl (And.intro rfl (trivial))))))))) ?_ ?_
   ·skip
    refine Sq (Rg ?_)
    refine rp 2 rfl ?_
    refine Wp (po_iaddr rfl rfl (by exact fc_slice_32_45_3) (by first | omega | (simp <;> omega)) (by first | omega | (simp <;> omega))) ?_
    refine Wp (po_faddr_sl rfl (by omega) (by exact fc_field_45_1_1)) ?_
    refine Wp (po_load_sl rfl (List.getElem?_eq_getElem (by first | omega | (simp <;> omega))) (by exact fc_flat_3) (by rfl)) ?_
    refine Wp (po_eq rfl rfl) ?_
    refine Sn (Aw ?_)
    refine Rc rfl ?_ ?_
    ·skip
     intro h4
     refine Sq (Rg ?_)
     refine rp 1 rfl ?_
     refine Wp (po_add' rfl rfl (by omega) (by omega)) ?_
     refine rp 1 rfl ?_
     refine Sn (Aw (Sq ?_))
     refine r_ord [] _ [(0, 1), (1, 1), (2, 0), (3, 0), (4, 0), (5, 1), (6, 1), (7, 1), (8, 0), (9, 1), (10, 0), (11, 1), (12, 1), (13, 1), (14, 0), (15, 0), (16, 0), (18, 1), (17, 2), (19, 1), (20, 1)] fc_mixed (by kernel_rfl) (fun _ h => h) ?_
     refine Of rfl (po_move rfl) ?_
     refine Of rfl (po_move rfl) ?_
     refine Or rfl (po_iaddr rfl rfl (by exact fc_slice_32_45_3) (by first | omega | (simp <;> omega)) (by first | omega | (simp <;> omega))) ?_
     refine Or rfl (po_faddr_sl rfl (by omega) (by exact fc_field_45_2_2)) ?_
     refine Or rfl (po_load_sl rfl (List.getElem?_eq_getElem (by first | omega | (simp <;> omega))) (by exact fc_flat_3) (by rfl)) ?_
     refine Of rfl (po_ne rfl rfl) ?_
     refine Of rfl (po_bf (po_move rfl) (decide_eq_false (by have := hT1 h4; omega))) ?_
     refine Of rfl (po_faddr rfl (by exact fc_field_24_0_0)) ?_
     refine Or rfl (po_load rfl (by exact fc_flat_3) (by rfl)) ?_
     refine Of rfl (po_faddr rfl (by exact fc_field_24_1_1)) ?_
     refine Or rfl (po_load rfl (by exact fc_flat_3) (by rfl)) ?_
     refine Of rfl (po_move rfl) ?_
     refine Of rfl (po_move rfl) ?_
     refine Of rfl (po_move rfl) ?_
     refine Or rfl (po_iaddr rfl rfl (by exact fc_slice_32_45_3) (by first | omega | (simp <;> omega)) (by first | omega | (simp <;> omega))) ?_
     refine Or rfl (po_faddr_sl rfl (by omega) (by exact fc_field_45_0_0)) ?_
     refine Or rfl (po_load_sl rfl (List.getElem?_eq_getElem (by first | omega | (simp <;> omega))) (by exact fc_flat_3) (by rfl)) ?_
     refine Of rfl (po_move rfl) ?_
     refine o_st rfl (st_call (co_fn rfl rfl) (ref_Global W H i (ys[(k : Int).toNat]'(by omega)).cell) (by infer_instance) rfl rfl rfl ?_)
     rintro v91 _ ⟨rfl, rfl⟩
     try dsimp only [ca, na, GridS.l, GridS.p, MeshS.l, MeshS.lF, MeshS.p, FinderS.l, FinderS.p, FinderS.lF, RouteS.l, RouteS.p, GridS.lT, RouteS.lT]
     refine ⟨fun _ => (by first | exact fun _ h => h | exact ent), ?_⟩
     refine Of rfl (po_ne rfl rfl) ?_
     refine Of rfl (po_pick_f rfl rfl) ?_
     refine o_nil ?_
     refine Aw ?_
     first | refine r_dec_f rfl (by have := hT1 h4; omega) ?_ | refine r_nd_f rfl (by have := hT1 h4; omega) ?_ | refine r_cond_f rfl (by have := hT1 h4; omega) ?_
     refine Sk ?_
     have e1 : ((ys.take k).countP own4 : Int) + 1 = ((ys.take (k + 1)).countP own4 : Nat) := by rw [take_cnt hkl, if_pos (show own4 ys[k] = true from decide_eq_true h4)]; omega
     rw [e1]
     exact at_join (()) (And.intro rfl (trivial)) (And.intro rfl (And.intro rfl (And.intro rfl (And.intro rfl (And.intro rfl (And.intro rfl (And.intro rfl (And.intro rfl (trivial))))))))) (trivial) ent
    ·skip
     intro h4
     obtain ⟨hn1, hn2⟩ := hT2 h4
     generalize hne : stepN W H (globalN W H i (ys[(k : Int).toNat]'(by omega)).cell) (ys[(k : Int).toNat]'(by omega)).side = n at hn1 hn2
     have hnl : 0 ≤ n ∧ n < C.length := ⟨hn1.2.1, by have := hn1.2.2; omega⟩
     have hgn : gAt C n = C[n.toNat]'(by omega) := gAt_get (by omega)
     have hgb := hm.bt _ (List.getElem_mem (show n.toNat < C.length by omega))
     have hat := atN_rng r hro.rng n
     refine Sq ?_
     refine r_ord [] _ [(0, 1), (1, 0), (2, 1), (3, 0), (4, 1), (5, 0), (6, 1), (7, 0), (8, 1), (9, 1), (10, 1), (11, 0), (12, 0), (13, 0), (15, 1), (16, 1), (17, 0), (18, 0), (19, 0), (14, 2), (20, 2), (21, 1)] fc_mixed (by kernel_rfl) (fun _ h => h) ?_
     refine Of rfl (po_faddr rfl (by exact fc_field_24_0_0)) ?_
     refine Or rfl (po_load rfl (by exact fc_flat_3) (by rfl)) ?_
     refine Of rfl (po_faddr rfl (by exact fc_field_24_1_1)) ?_
     refine Or rfl (po_load rfl (by exact fc_flat_3) (by rfl)) ?_
     refine Of rfl (po_faddr rfl (by exact fc_field_24_0_0)) ?_
     refine Or rfl (po_load rfl (by exact fc_flat_3) (by rfl)) ?_
     refine Of rfl (po_faddr rfl (by exact fc_field_24_1_1)) ?_
     refine Or rfl (po_load rfl (by exact fc_flat_3) (by rfl)) ?_
     refine Of rfl (po_move rfl) ?_
     refine Of rfl (po_move rfl) ?_
     refine Of rfl (po_move rfl) ?_
     refine Or rfl (po_iaddr rfl rfl (by exact fc_slice_32_45_3) (by first | omega | (simp <;> omega)) (by first | omega | (simp <;> omega))) ?_
     refine Or rfl (po_faddr_sl rfl (by omega) (by exact fc_field_45_0_0)) ?_
     refine Or rfl (po_load_sl rfl (List.getElem?_eq_getElem (by first | omega | (simp <;> omega))) (by exact fc_flat_3) (by rfl)) ?_
     refine Of rfl (po_move rfl) ?_
     refine Of rfl (po_move rfl) ?_
     refine Or rfl (po_iaddr rfl rfl (by exact fc_slice_32_45_3) (by first | omega | (simp <;> omega)) (by first | omega | (simp <;> omega))) ?_
     refine Or rfl (po_faddr_sl rfl (by omega) (by exact fc_field_45_1_1)) ?_
     refine Or rfl (po_load_sl rfl (List.getElem?_eq_getElem (by first | omega | (simp <;> omega))) (by exact fc_flat_3) (by rfl)) ?_
     refine o_st rfl (st_call (co_fn rfl rfl) (ref_Global W H i (ys[(k : Int).toNat]'(by omega)).cell) (by infer_instance) rfl rfl rfl ?_)
     rintro v109 _ ⟨rfl, rfl⟩
     try dsimp only [ca, na, GridS.l, GridS.p, MeshS.l, MeshS.lF, MeshS.p, FinderS.l, FinderS.p, FinderS.lF, RouteS.l, RouteS.p, GridS.lT, RouteS.lT]
     refine ⟨fun _ => (by first | exact fun _ h => h | exact ent), ?_⟩
     refine o_st rfl (st_call (co_fn rfl rfl) (ref_Step W H (globalN W H i (ys[(k : Int).toNat]'(by omega)).cell) (ys[(k : Int).toNat]'(by omega)).side) (by infer_instance) rfl rfl rfl ?_)
     rintro v115 _ ⟨rfl, rfl⟩
     try dsimp only [ca, na, GridS.l, GridS.p, MeshS.l, MeshS.lF, MeshS.p, FinderS.l, FinderS.p, FinderS.lF, RouteS.l, RouteS.p, GridS.lT, RouteS.lT]
     refine ⟨fun _ => (by first | exact fun _ h => h | exact ent), ?_⟩
     rw [hne]
     refine Of rfl (po_assign rfl) ?_
     refine o_nil ?_
     refine Aw (Sq ?_)
     refine r_ord [] _ [(0, 1), (1, 1), (2, 1), (3, 1), (4, 1), (6, 1), (7, 0), (8, 1), (9, 0), (10, 0), (11, 1), (13, 1), (14, 1), (15, 0), (16, 0), (17, 0), (5, 2), (12, 1), (18, 1), (19, 1)] fc_mixed (by kernel_rfl) (fun _ h => h) ?_
     refine Of rfl (po_move rfl) ?_
     refine Of rfl (po_lt rfl rfl) ?_
     refine Of rfl (po_bf (po_move rfl) (decide_eq_false (by omega))) ?_
     refine Of rfl (po_move rfl) ?_
     refine Of rfl (po_move rfl) ?_
     refine Of rfl (po_faddr rfl (by exact fc_field_24_2_2)) ?_
     refine Or rfl (po_load rfl (by exact fc_flat_22) (by rfl)) ?_
     refine Of rfl (po_move rfl) ?_
     refine Or rfl (po_iaddr rfl rfl (by exact fc_slice_22_5_1) (by first | omega | (simp <;> omega)) (by first | omega | (simp <;> omega))) ?_
     refine Or rfl (po_load_sl rfl (List.getElem?_eq_getElem (by first | omega | (simp <;> omega))) (by exact fc_flat_5) (by rfl)) ?_
     refine Of rfl (po_conv_w rfl (by exact fc_int_5_u8) (by exact fc_int_3_i64) (wrap_i64 _ (by omega) (by omega))) ?_
     refine Of rfl (po_move rfl) ?_
     refine Of rfl (po_move rfl) ?_
     refine Or rfl (po_iaddr rfl rfl (by exact fc_slice_32_45_3) (by first | omega | (simp <;> omega)) (by first | omega | (simp <;> omega))) ?_
     refine Or rfl (po_faddr_sl rfl (by omega) (by exact fc_field_45_2_2)) ?_
     refine Or rfl (po_load_sl rfl (List.getElem?_eq_getElem (by first | omega | (simp <;> omega))) (by exact fc_flat_3) (by rfl)) ?_
     refine o_st rfl (st_call (co_fn rfl rfl) (route_At r n hro.rng) (by infer_instance) rfl rfl rfl ?_)
     rintro v121 _ ⟨rfl, rfl⟩
     try dsimp only [ca, na, GridS.l, GridS.p, MeshS.l, MeshS.lF, MeshS.p, FinderS.l, FinderS.p, FinderS.lF, RouteS.l, RouteS.p, GridS.lT, RouteS.lT]
     refine ⟨fun _ => (by first | exact fun _ h => h | exact ent), ?_⟩
     refine Of rfl (po_add' rfl rfl (by omega) (by omega)) ?_
     refine Of rfl (po_ne rfl rfl) ?_
     refine Of rfl (po_pick_f rfl rfl) ?_
     refine o_nil ?_
     refine Aw ?_
     first | refine r_dec_f rfl (by omega) ?_ | refine r_nd_f rfl (by omega) ?_ | refine r_cond_f rfl (by omega) ?_
     refine Sk ?_
     have e1 : ((ys.take k).countP own4 : Int) = ((ys.take (k + 1)).countP own4 : Nat) := by rw [take_cnt hkl, if_neg (by unfold own4; exact fun h => h4 (of_decide_eq_true h))]; omega
     rw [e1]
     exact at_join (()) (And.intro rfl (trivial)) (And.intro rfl (And.intro rfl (And.intro rfl (And.intro rfl (And.intro rfl (And.intro rfl (And.intro rfl (And.intro rfl (trivial))))))))) (trivial) ent
   ·skip
    rintro _ -
    try dsimp only [ca, na, GridS.l, GridS.p, MeshS.l, MeshS.lF, MeshS.p, FinderS.l, FinderS.p, FinderS.lF, RouteS.l, RouteS.p, GridS.lT, RouteS.lT]
    refine Sq (Rg ?_)
    refine rp 1 rfl ?_
    refine Sn (Aw (Bk ?_))
    refine r_loop (S := Nat) (fun j => [(22, .int .i64 j)]) [(11, _), (12, _), (14, _), (15, _), (16, _), (17, _), (18, _), (19, _), (20, _)] (fun j => Sl eS v59 ys :: Blk b16 41 [.int .i64 (tileN f.m.g i).w, .int .i64 (tileN f.m.g i).h, tc] :: Sl eB tc (tileN f.m.g i).c :: Blk b11 24 [.int .i64 W, .int .i64 H, mv] :: Sl eB mv C :: K :: r.lT [F]) (fun j => j ≤ k) (fun j => k - j) (0) (And.intro rfl (And.intro rfl (And.intro rfl (And.intro rfl (And.intro rfl (And.intro rfl (And.intro rfl (And.intro rfl (And.intro rfl (trivial)))))))))) (And.intro rfl (trivial)) (by omega) ent ?_
    rintro j hj
    try dsimp only [ca, na, GridS.l, GridS.p, MeshS.l, MeshS.lF, MeshS.p, FinderS.l, FinderS.p, FinderS.lF, RouteS.l, RouteS.p, GridS.lT, RouteS.lT]
    refine Sq (Sq (Rg ?_))
    refine rp 2 rfl ?_
    refine Wp (po_lt rfl rfl) ?_
    refine Sn (Aw ?_)
    refine Rc rfl ?_ ?_
    ·skip
     intro hjk
     have hjp := List.pairwise_iff_getElem.1 hpw (j : Int).toNat (k : Int).toNat (by omega) (by omega) (by omega)
     have hjs := ord_key (List.pairwise_iff_getElem.1 hs (j : Int).toNat (k : Int).toNat (by omega) (by omega) (by omega))
     refine Sk (Aw (Sq (Bk (Sq ?_))))
     refine r_ord [] _ [(0, 1), (1, 1), (2, 0), (3, 0), (4, 0), (5, 1), (6, 1), (7, 0), (8, 0), (9, 0), (10, 1), (11, 1), (12, 1), (13, 1), (14, 0), (15, 0), (16, 0), (17, 1), (18, 1), (19, 0), (20, 0), (21, 0), (22, 1), (23, 1), (24, 1), (25, 1), (26, 1), (27, 0), (28, 0), (29, 0), (30, 1), (31, 1), (32, 0), (33, 0), (34, 0), (35, 1), (36, 1)] fc_mixed (by kernel_rfl) (fun _ h => h) ?_
     refine Of rfl (po_move rfl) ?_
     refine Of rfl (po_move rfl) ?_
     refine Or rfl (po_iaddr rfl rfl (by exact fc_slice_32_45_3) (by first | omega | (simp <;> omega)) (by first | omega | (simp <;> omega))) ?_
     refine Or rfl (po_faddr_sl rfl (by omega) (by exact fc_field_45_0_0)) ?_
     refine Or rfl (po_load_sl rfl (List.getElem?_eq_getElem (by first | omega | (simp <;> omega))) (by exact fc_flat_3) (by rfl)) ?_
     refine Of rfl (po_move rfl) ?_
     refine Of rfl (po_move rfl) ?_
     refine Or rfl (po_iaddr rfl rfl (by exact fc_slice_32_45_3) (by first | omega | (simp <;> omega)) (by first | omega | (simp <;> omega))) ?_
     refine Or rfl (po_faddr_sl rfl (by omega) (by exact fc_field_45_0_0)) ?_
     refine Or rfl (po_load_sl rfl (List.getElem?_eq_getElem (by first | omega | (simp <;> omega))) (by exact fc_flat_3) (by rfl)) ?_
     refine Of rfl (po_eq rfl rfl) ?_
     by_cases e1 : (ys[(j : Int).toNat]'(by omega)).cell = (ys[(k : Int).toNat]'(by omega)).cell
     ·skip
      refine o_fr rfl (po_bt (po_move rfl) (decide_eq_true e1)) rfl rfl rfl ?_
      refine Of rfl (po_move rfl) ?_
      refine Of rfl (po_move rfl) ?_
      refine Or rfl (po_iaddr rfl rfl (by exact fc_slice_32_45_3) (by first | omega | (simp <;> omega)) (by first | omega | (simp <;> omega))) ?_
      refine Or rfl (po_faddr_sl rfl (by omega) (by exact fc_field_45_1_1)) ?_
      refine Or rfl (po_load_sl rfl (List.getElem?_eq_getElem (by first | omega | (simp <;> omega))) (by exact fc_flat_3) (by rfl)) ?_
      refine Of rfl (po_move rfl) ?_
      refine Of rfl (po_move rfl) ?_
      refine Or rfl (po_iaddr rfl rfl (by exact fc_slice_32_45_3) (by first | omega | (simp <;> omega)) (by first | omega | (simp <;> omega))) ?_
      refine Or rfl (po_faddr_sl rfl (by omega) (by exact fc_field_45_1_1)) ?_
      refine Or rfl (po_load_sl rfl (List.getElem?_eq_getElem (by first | omega | (simp <;> omega))) (by exact fc_flat_3) (by rfl)) ?_
      refine Of rfl (po_eq rfl rfl) ?_
      refine Of rfl (po_pick_t rfl rfl) ?_
      refine Of rfl (po_bf (po_move rfl) (decide_eq_false (fun e2 => hjp ⟨e1, e2⟩))) ?_
      refine Of rfl (po_move rfl) ?_
      refine Of rfl (po_move rfl) ?_
      refine Or rfl (po_iaddr rfl rfl (by exact fc_slice_32_45_3) (by first | omega | (simp <;> omega)) (by first | omega | (simp <;> omega))) ?_
      refine Or rfl (po_faddr_sl rfl (by omega) (by exact fc_field_45_2_2)) ?_
      refine Or rfl (po_load_sl rfl (List.getElem?_eq_getElem (by first | omega | (simp <;> omega))) (by exact fc_flat_3) (by rfl)) ?_
      refine Of rfl (po_move rfl) ?_
      refine Of rfl (po_move rfl) ?_
      refine Or rfl (po_iaddr rfl rfl (by exact fc_slice_32_45_3) (by first | omega | (simp <;> omega)) (by first | omega | (simp <;> omega))) ?_
      refine Or rfl (po_faddr_sl rfl (by omega) (by exact fc_field_45_2_2)) ?_
      refine Or rfl (po_load_sl rfl (List.getElem?_eq_getElem (by first | omega | (simp <;> omega))) (by exact fc_flat_3) (by rfl)) ?_
      refine Of rfl (po_gt rfl rfl) ?_
      refine Of rfl (po_pick_f rfl rfl) ?_
      refine o_nil ?_
      refine Aw ?_
      first | refine r_dec_f rfl (by omega) ?_ | refine r_nd_f rfl (by omega) ?_ | refine r_cond_f rfl (by omega) ?_
      refine Sk (Bn (Aw (Rg ?_)))
      refine rp 1 rfl ?_
      refine Wp (po_add' rfl rfl (by omega) (by omega)) ?_
      refine rp 1 rfl ?_
      refine Sn ?_
      exact at_again (j + 1) (And.intro rfl (trivial)) (And.intro rfl (And.intro rfl (And.intro rfl (And.intro rfl (And.intro rfl (And.intro rfl (And.intro rfl (And.intro rfl (And.intro rfl (trivial)))))))))) (by omega) (by omega) ent
     ·skip
      refine o_fr rfl (po_bf (po_move rfl) (decide_eq_false e1)) rfl rfl rfl ?_
      refine o_no rfl rfl rfl rfl ?_
      refine o_no rfl rfl rfl rfl ?_
      refine o_nor rfl (by first | exact fun _ h => h | exact ent) rfl rfl rfl ?_
      refine o_nor rfl (by first | exact fun _ h => h | exact ent) rfl rfl rfl ?_
      refine o_nor rfl (by first | exact fun _ h => h | exact ent) rfl rfl rfl ?_
      refine o_no rfl rfl rfl rfl ?_
      refine o_no rfl rfl rfl rfl ?_
      refine o_nor rfl (by first | exact fun _ h => h | exact ent) rfl rfl rfl ?_
      refine o_nor rfl (by first | exact fun _ h => h | exact ent) rfl rfl rfl ?_
      refine o_nor rfl (by first | exact fun _ h => h | exact ent) rfl rfl rfl ?_
      refine o_no rfl rfl rfl rfl ?_
      refine Of rfl (po_pick_f rfl rfl) ?_
      refine Of rfl (po_move rfl) ?_
      refine Of rfl (po_move rfl) ?_
      refine Of rfl (po_move rfl) ?_
      refine Or rfl (po_iaddr rfl rfl (by exact fc_slice_32_45_3) (by first | omega | (simp <;> omega)) (by first | omega | (simp <;> omega))) ?_
      refine Or rfl (po_faddr_sl rfl (by omega) (by exact fc_field_45_2_2)) ?_
      refine Or rfl (po_load_sl rfl (List.getElem?_eq_getElem (by first | omega | (simp <;> omega))) (by exact fc_flat_3) (by rfl)) ?_
      refine Of rfl (po_move rfl) ?_
      refine Of rfl (po_move rfl) ?_
      refine Or rfl (po_iaddr rfl rfl (by exact fc_slice_32_45_3) (by first | omega | (simp <;> omega)) (by first | omega | (simp <;> omega))) ?_
      refine Or rfl (po_faddr_sl rfl (by omega) (by exact fc_field_45_2_2)) ?_
      refine Or rfl (po_load_sl rfl (List.getElem?_eq_getElem (by first | omega | (simp <;> omega))) (by exact fc_flat_3) (by rfl)) ?_
      refine Of rfl (po_gt rfl rfl) ?_
      refine Of rfl (po_pick_f rfl rfl) ?_
      refine o_nil ?_
      refine Aw ?_
      first | refine r_dec_f rfl (by omega) ?_ | refine r_nd_f rfl (by omega) ?_ | refine r_cond_f rfl (by omega) ?_
      refine Sk (Bn (Aw (Rg ?_)))
      refine rp 1 rfl ?_
      refine Wp (po_add' rfl rfl (by omega) (by omega)) ?_
      refine rp 1 rfl ?_
      refine Sn ?_
      exact at_again (j + 1) (And.intro rfl (trivial)) (And.intro rfl (And.intro rfl (And.intro rfl (And.intro rfl (And.intro rfl (And.intro rfl (And.intro rfl (And.intro rfl (And.intro rfl (trivial)))))))))) (by omega) (by omega) ent
    ·skip
     intro hjk
     refine Ex' (Ax (Ax (Bh (Bn (Aw (Rg ?_))))))
     refine rp 1 rfl ?_
     refine Wp (po_add' rfl rfl (by omega) (by omega)) ?_
     refine rp 1 rfl ?_
     refine Sn ?_
     exact at_again (k + 1) (And.intro rfl (And.intro rfl (trivial))) (And.intro rfl (And.intro rfl (And.intro rfl (And.intro rfl (And.intro rfl (And.intro rfl (And.intro rfl (trivial)))))))) (by omega) (by omega) ent
  ·skip
   intro hlt
   rw [List.take_of_length_le (by omega), hcnt]
   have hgt : gAt C t = C[t.toNat]'(by have := htc.2; omega) := gAt_get (by have := htc.2; omega)
   have hct : costN C t = gAt C t := by rw [costN, if_pos ⟨htc.2.1, by have := htc.2.2; omega⟩]
   have htl2 : 0 ≤ t ∧ t < C.length := ⟨htc.2.1, by have := htc.2.2; omega⟩
   have hmt := tile_may ok his'
   have htlen : (tileN f.m.g i).c.length ≤ 2^30 := by have := hmt.1; have := hmt.2.1; have := hmt.2.2.1; unfold Sized at *; have := mul_1k (a := (tileN f.m.g i).w) (b := (tileN f.m.g i).h) (by omega) (by omega) (by omega) (by omega); omega
   by_cases hown : sectorN W H t = i ∧ costN C t ≠ 255
   ·skip
    rw [if_pos hown]
    refine Ex' (Ax (Ax (Bh (Aw (Sq (Rg ?_))))))
    refine Wp (po_faddr rfl (by exact fc_field_24_0_0)) ?_
    refine Wp (po_load rfl (by exact fc_flat_3) (by rfl)) ?_
    refine Wp (po_faddr rfl (by exact fc_field_24_1_1)) ?_
    refine Wp (po_load rfl (by exact fc_flat_3) (by rfl)) ?_
    refine rp 1 rfl ?_
    refine Wc (co_fn rfl rfl) (ref_Sector W H t) ?_
    rintro v183 _ ⟨rfl, rfl⟩
    try dsimp only [ca, na, GridS.l, GridS.p, MeshS.l, MeshS.lF, MeshS.p, FinderS.l, FinderS.p, FinderS.lF, RouteS.l, RouteS.p, GridS.lT, RouteS.lT]
    refine rp 1 rfl ?_
    refine Wp (po_eq rfl rfl) ?_
    refine Wp (po_bt (po_move rfl) (decide_eq_true (hown.1))) ?_
    refine Wp (po_faddr rfl (by exact fc_field_24_2_2)) ?_
    refine Wp (po_load rfl (by exact fc_flat_22) (by rfl)) ?_
    refine rp 1 rfl ?_
    refine Wp (po_iaddr rfl rfl (by exact fc_slice_22_5_1) (by first | omega | (simp <;> omega)) (by first | omega | (simp <;> omega))) ?_
    refine Wp (po_load_sl rfl (List.getElem?_eq_getElem (by first | omega | (simp <;> omega))) (by exact fc_flat_5) (by rfl)) ?_
    refine Wp (po_ne rfl rfl) ?_
    refine rp 2 rfl ?_
    refine Sn (Aw (Sq (Rg ?_)))
    refine Wc (co_fn rfl rfl) (law16_told) ?_
    rintro v194 _ ⟨rfl, rfl⟩
    try dsimp only [ca, na, GridS.l, GridS.p, MeshS.l, MeshS.lF, MeshS.p, FinderS.l, FinderS.p, FinderS.lF, RouteS.l, RouteS.p, GridS.lT, RouteS.lT]
    refine Wp (po_bt (po_move rfl) (rfl)) ?_
    refine rp 2 rfl ?_
    refine Wp (po_bt (po_move rfl) (rfl)) ?_
    refine Wp (po_loada rfl (by exact fc_agg_41_3) (by rfl)) ?_
    refine rp 1 rfl ?_
    refine Wc (co_fn rfl rfl) (ref_MaySeeds tc v59 (tileN f.m.g i) ys hmt htlen (by omega) hmy) ?_
    rintro v201 _ ⟨rfl, rfl⟩
    try dsimp only [ca, na, GridS.l, GridS.p, MeshS.l, MeshS.lF, MeshS.p, FinderS.l, FinderS.p, FinderS.lF, RouteS.l, RouteS.p, GridS.lT, RouteS.lT]
    refine rp 1 rfl ?_
    refine Wp (po_bt (po_move rfl) (rfl)) ?_
    refine rp 1 rfl ?_
    refine Wp (po_le rfl rfl) ?_
    refine rp 1 rfl ?_
    refine Wp (po_bt (po_move rfl) (decide_eq_true (by decide))) ?_
    refine rp 1 rfl ?_
    refine Wp (po_eq rfl rfl) ?_
    refine rp 1 rfl ?_
    refine Wp (po_beq rfl rfl (by exact fc_bool_4)) ?_
    refine rp 2 rfl ?_
    refine Sn (Aw (Rt ?_))
    have h255 : C[t.toNat]'(by omega) ≠ 255 := by rw [← hgt, ← hct]; exact hown.2
    refine at_ret1 rfl (rv_tmp rfl) ⟨_, ⟨by simp [h255], rfl⟩, ?_⟩
    try dsimp only [ca, na, GridS.l, GridS.p, MeshS.l, MeshS.lF, MeshS.p, FinderS.l, FinderS.p, FinderS.lF, RouteS.l, RouteS.p, GridS.lT, RouteS.lT]
    exact ent
   ·skip
    rw [if_neg hown]
    refine Ex' (Ax (Ax (Bh (Aw (Sq (Rg ?_))))))
    refine Wp (po_faddr rfl (by exact fc_field_24_0_0)) ?_
    refine Wp (po_load rfl (by exact fc_flat_3) (by rfl)) ?_
    refine Wp (po_faddr rfl (by exact fc_field_24_1_1)) ?_
    refine Wp (po_load rfl (by exact fc_flat_3) (by rfl)) ?_
    refine rp 1 rfl ?_
    refine Wc (co_fn rfl rfl) (ref_Sector W H t) ?_
    rintro v183 _ ⟨rfl, rfl⟩
    try dsimp only [ca, na, GridS.l, GridS.p, MeshS.l, MeshS.lF, MeshS.p, FinderS.l, FinderS.p, FinderS.lF, RouteS.l, RouteS.p, GridS.lT, RouteS.lT]
    refine rp 1 rfl ?_
    refine Wp (po_eq rfl rfl) ?_
    by_cases hse : sectorN W H t = i
    ·skip
     refine ws (st_po (po_bt (po_move rfl) (decide_eq_true hse)) rfl rfl rfl ?_)
     refine Wp (po_faddr rfl (by exact fc_field_24_2_2)) ?_
     refine Wp (po_load rfl (by exact fc_flat_22) (by rfl)) ?_
     refine rp 1 rfl ?_
     refine Wp (po_iaddr rfl rfl (by exact fc_slice_22_5_1) (by first | omega | (simp <;> omega)) (by first | omega | (simp <;> omega))) ?_
     refine Wp (po_load_sl rfl (List.getElem?_eq_getElem (by first | omega | (simp <;> omega))) (by exact fc_flat_5) (by rfl)) ?_
     refine Wp (po_ne rfl rfl) ?_
     refine rp 2 rfl ?_
     refine Sn (Aw (Sq (Rg ?_)))
     refine Wc (co_fn rfl rfl) (law16_told) ?_
     rintro v194 _ ⟨rfl, rfl⟩
     try dsimp only [ca, na, GridS.l, GridS.p, MeshS.l, MeshS.lF, MeshS.p, FinderS.l, FinderS.p, FinderS.lF, RouteS.l, RouteS.p, GridS.lT, RouteS.lT]
     refine Wp (po_bt (po_move rfl) (rfl)) ?_
     refine rp 2 rfl ?_
     refine Wp (po_bt (po_move rfl) (rfl)) ?_
     refine Wp (po_loada rfl (by exact fc_agg_41_3) (by rfl)) ?_
     refine rp 1 rfl ?_
     refine Wc (co_fn rfl rfl) (ref_MaySeeds tc v59 (tileN f.m.g i) ys hmt htlen (by omega) hmy) ?_
     rintro v201 _ ⟨rfl, rfl⟩
     try dsimp only [ca, na, GridS.l, GridS.p, MeshS.l, MeshS.lF, MeshS.p, FinderS.l, FinderS.p, FinderS.lF, RouteS.l, RouteS.p, GridS.lT, RouteS.lT]
     refine rp 1 rfl ?_
     refine Wp (po_bt (po_move rfl) (rfl)) ?_
     refine rp 1 rfl ?_
     refine Wp (po_le rfl rfl) ?_
     refine rp 1 rfl ?_
     refine Wp (po_bt (po_move rfl) (decide_eq_true (by decide))) ?_
     refine rp 1 rfl ?_
     refine Wp (po_eq rfl rfl) ?_
     refine rp 1 rfl ?_
     refine Wp (po_beq rfl rfl (by exact fc_bool_4)) ?_
     refine rp 2 rfl ?_
     refine Sn (Aw (Rt ?_))
     have h255 : C[t.toNat]'(by omega) = 255 := by rw [← hgt, ← hct]; exact Classical.not_not.1 fun h => hown ⟨hse, h⟩
     refine at_ret1 rfl (rv_tmp rfl) ⟨_, ⟨by simp [h255], rfl⟩, ?_⟩
     try dsimp only [ca, na, GridS.l, GridS.p, MeshS.l, MeshS.lF, MeshS.p, FinderS.l, FinderS.p, FinderS.lF, RouteS.l, RouteS.p, GridS.lT, RouteS.lT]
     exact ent
    ·skip
     refine ws (st_po (po_bf (po_move rfl) (decide_eq_false hse)) rfl rfl rfl ?_)
     refine rp 8 rfl ?_
     refine Sn (Aw (Sq (Rg ?_)))
     refine Wc (co_fn rfl rfl) (law16_told) ?_
     rintro v194 _ ⟨rfl, rfl⟩
     try dsimp only [ca, na, GridS.l, GridS.p, MeshS.l, MeshS.lF, MeshS.p, FinderS.l, FinderS.p, FinderS.lF, RouteS.l, RouteS.p, GridS.lT, RouteS.lT]
     refine Wp (po_bt (po_move rfl) (rfl)) ?_
     refine rp 2 rfl ?_
     refine Wp (po_bt (po_move rfl) (rfl)) ?_
     refine Wp (po_loada rfl (by exact fc_agg_41_3) (by rfl)) ?_
     refine rp 1 rfl ?_
     refine Wc (co_fn rfl rfl) (ref_MaySeeds tc v59 (tileN f.m.g i) ys hmt htlen (by omega) hmy) ?_
     rintro v201 _ ⟨rfl, rfl⟩
     try dsimp only [ca, na, GridS.l, GridS.p, MeshS.l, MeshS.lF, MeshS.p, FinderS.l, FinderS.p, FinderS.lF, RouteS.l, RouteS.p, GridS.lT, RouteS.lT]
     refine rp 1 rfl ?_
     refine Wp (po_bt (po_move rfl) (rfl)) ?_
     refine rp 1 rfl ?_
     refine Wp (po_le rfl rfl) ?_
     refine rp 1 rfl ?_
     refine Wp (po_bt (po_move rfl) (decide_eq_true (by decide))) ?_
     refine rp 1 rfl ?_
     refine Wp (po_eq rfl rfl) ?_
     refine rp 1 rfl ?_
     refine Wp (po_beq rfl rfl (by exact fc_bool_4)) ?_
     refine rp 2 rfl ?_
     refine Sn (Aw (Rt ?_))
     refine at_ret1 rfl (rv_tmp rfl) ⟨_, ⟨by simp, rfl⟩, ?_⟩
     try dsimp only [ca, na, GridS.l, GridS.p, MeshS.l, MeshS.lF, MeshS.p, FinderS.l, FinderS.p, FinderS.lF, RouteS.l, RouteS.p, GridS.lT, RouteS.lT]
     exact ent
end Hd
end
section
namespace Hd
set_option maxRecDepth 100000
open Go

def refS (w h : Int) (C : List Int) (D : Int → Int) (c : Int) (k : Nat) : List Seed := (List.range k).flatMap fun (j : Nat) => if Opn C (overN w h c j) ∧ D (overN w h c j) < 1099511627776 then [⟨localN w h c, j, gAt C (overN w h c j) + D (overN w h c j)⟩] else []
def refO (w h : Int) (C : List Int) (D : Int → Int) (i : Int) (m : Nat) : List Seed := ((nodesN w h C i).take m).flatMap fun c => refS w h C D c 4
theorem refS_succ (w h : Int) (C : List Int) (D : Int → Int) (c : Int) (k : Nat) : refS w h C D c (k + 1) = refS w h C D c k ++ if Opn C (overN w h c k) ∧ D (overN w h c k) < 1099511627776 then [⟨localN w h c, k, gAt C (overN w h c k) + D (overN w h c k)⟩] else [] := by
  unfold refS; rw [List.range_succ, List.flatMap_append]; simp
theorem refS_len (w h : Int) (C : List Int) (D : Int → Int) (c : Int) : ∀ k : Nat, (refS w h C D c k).length ≤ k
  | 0 => by simp [refS]
  | k + 1 => by
    rw [refS_succ, List.length_append]
    have := refS_len w h C D c k
    split <;> simp <;> omega
theorem refO_len (w h : Int) (C : List Int) (D : Int → Int) (i : Int) (m : Nat) : (refO w h C D i m).length ≤ 1024 := by
  have h1 := flat_le (fun c => refS w h C D c 4) 4 (fun c => refS_len w h C D c 4) ((nodesN w h C i).take m)
  have h2 := nodes_len w h C i
  rw [List.length_take] at h1
  unfold refO; omega
def refG (w h : Int) (C : List Int) (D : Int → Int) (t i : Int) : List Seed := refO w h C D i (nodesN w h C i).length ++ if sectorN w h t = i ∧ Opn C t then [⟨localN w h t, 4, 0⟩] else []
/-- the document's seeds are the program's -/
theorem mem_refG {g : GridS} (ok : GridOk g) {r : RouteS} (hr : RouteOk g r) {d : List Int} (hd : ∀ c : Int, 0 ≤ c → c < g.c.length → gAt d c = flD g r.goal c) {i : Int} (hi : IsS g.w g.h i) (ht : IsC g.w g.h r.goal) (s : Seed) :
    s ∈ refG g.w g.h g.c (gAt d) r.goal i ↔ s ∈ seedsG g.w g.h g.c (atN r) r.goal i := by
  have hI : INF = 1099511627776 := rfl
  unfold refG seedsG
  rw [List.mem_append, List.mem_append]
  refine or_congr ?_ ?_
  · rw [mem_seedsO ok hi]
    unfold refO refS
    rw [List.take_length, List.mem_flatMap]
    constructor
    · rintro ⟨c, hc, hs⟩
      obtain ⟨⟨hco, _⟩, hci⟩ := (mem_nodes ok hi).1 hc
      rw [List.mem_flatMap] at hs
      obtain ⟨j, hj, hs⟩ := hs
      rw [List.mem_range] at hj
      split at hs
      · rename_i h1
        rw [List.mem_singleton] at hs
        have h0 : 0 ≤ overN g.w g.h c j := h1.1.1
        have h2 := over_ge.1 h0
        have h3 := over_eq h0
        rw [h3] at h1 hs
        have hop : OpC g.w g.h g.c (stepN g.w g.h c j) := ⟨h1.1, opn_isC ok h1.1⟩
        have hnd : Nd g.w g.h g.c (stepN g.w g.h c j) := by
          obtain ⟨s', hs', e'⟩ := adj_symm h2.1 ⟨(j : Int), ⟨by omega, by omega⟩, rfl⟩
          exact ⟨hop, s', hs', by rw [e']; exact hco.1.1, by rw [e']; exact fun x => h2.2 x.symm⟩
        have hat := hr.at ok (stepN g.w g.h c j)
        rw [if_pos hnd, ← hd _ h1.1.1 h1.1.2.1] at hat
        exact ⟨c, j, hco, hci, ⟨by omega, by omega⟩, hop, by rw [← hci]; exact h2.2, by rw [hat]; omega, by rw [hat]; exact hs⟩
      · cases hs
    · rintro ⟨c, k, hco, hci, hk, hop, hne, hA, rfl⟩
      have hst := hop.1.1
      have hnc : Nd g.w g.h g.c c := ⟨hco, k, hk, hst, by rw [hci]; exact hne⟩
      refine ⟨c, (mem_nodes ok hi).2 ⟨hnc, hci⟩, ?_⟩
      rw [List.mem_flatMap]
      refine ⟨k.toNat, List.mem_range.2 (by omega), ?_⟩
      rw [Int.toNat_of_nonneg hk.1]
      have h0 : 0 ≤ overN g.w g.h c k := over_ge.2 ⟨hst, by rw [hci]; exact hne⟩
      have h3 := over_eq h0
      have hnd : Nd g.w g.h g.c (stepN g.w g.h c k) := by
        obtain ⟨s', hs', e'⟩ := adj_symm hst ⟨k, hk, rfl⟩
        exact ⟨hop, s', hs', by rw [e']; exact hco.1.1, by rw [e', hci]; exact fun x => hne x.symm⟩
      have hat := hr.at ok (stepN g.w g.h c k)
      rw [if_pos hnd, ← hd _ hop.1.1 hop.1.2.1] at hat
      rw [hat] at hA ⊢
      have hrg := (fl_is ok r.goal).rng (stepN g.w g.h c k)
      rw [← hd _ hop.1.1 hop.1.2.1] at hrg
      rw [h3, if_pos ⟨hop.1, by omega⟩]
      exact List.mem_singleton.2 rfl
  · have e : (sectorN g.w g.h r.goal = i ∧ Opn g.c r.goal) ↔ (sectorN g.w g.h r.goal = i ∧ costN g.c r.goal ≠ 255) := by
      refine and_congr_right fun _ => ?_
      rw [cost_opn ok ht]
      have := ok.len
      exact ⟨fun h => h.2.2, fun h => ⟨ht.2.1, by have := ht.2.2; omega, h⟩⟩
    by_cases h : sectorN g.w g.h r.goal = i ∧ Opn g.c r.goal
    · rw [if_pos h, if_pos (e.1 h)]
    · rw [if_neg h, if_neg (fun h2 => h (e.2 h2))]
theorem ref_Seeds (q : GridS) (ok : GridOk q) (cv dv : Value) (t i : Int) (d : List Int) (hdl : d.length = q.c.length) (hdr : ∀ x ∈ d, 0 ≤ x ∧ x ≤ 1099511627776) :
    Spec PP 12 #[mapV q.w q.h cv, .int .i64 t, dv, .int .i64 i] [Sl eB cv q.c, Sl eI dv d] (fun v M => ∃ ys, M = [Sl eB cv q.c, Sl eI dv d, Sl eS v ys] ∧ ys.Pairwise ltS ∧ ∀ s, s ∈ ys ↔ s ∈ refG q.w q.h q.c (gAt d) t i) := by
  have hnl := nodes_len q.w q.h q.c i
  refine spec_of (Go.Proofs.Tryz.func12) rfl rfl rfl (by exact fc_enters_12) ?_
  intro g F
  try dsimp only [ca, na, GridS.l, GridS.p, MeshS.l, MeshS.lF, MeshS.p, FinderS.l, FinderS.p, FinderS.lF, RouteS.l, RouteS.p, GridS.lT, RouteS.lT]
  refine Sq (Rg ?_)
  refine Wx (xo_box rfl rfl) ?_
  rintro _ _ ⟨b4, rfl, rfl⟩
  refine rp 1 rfl ?_
  refine Sn (Aw (Sq (Rg ?_)))
  refine rp 1 rfl ?_
  refine Sn (Aw (Sq (Rg ?_)))
  refine Wp (po_loada rfl (by exact fc_agg_24_3) (by rfl)) ?_
  refine rp 1 rfl ?_
  refine Wc (co_fn rfl rfl) (ref_Nodes q ok cv i) ?_
  rintro v16 _ rfl
  try dsimp only [ca, na, GridS.l, GridS.p, MeshS.l, MeshS.lF, MeshS.p, FinderS.l, FinderS.p, FinderS.lF, RouteS.l, RouteS.p, GridS.lT, RouteS.lT]
  refine rp 1 rfl ?_
  refine Sn (Aw (Sq (Sq (Rg ?_))))
  refine rp 1 rfl ?_
  refine Sn (Aw (Bk ?_))
  refine r_loop (S := Nat × Value × List Seed) (fun ⟨m, ov, xs⟩ => [(9, ov), (11, .int .i64 m)]) [(1, _), (2, _), (3, _), (4, _), (10, _)] (fun ⟨m, ov, xs⟩ => [Blk b4 24 [.int .i64 q.w, .int .i64 q.h, cv], Sl eI v16 (nodesN q.w q.h q.c i), Sl eS ov xs, Sl eB cv q.c, Sl eI dv d, F]) (fun ⟨m, ov, xs⟩ => m ≤ (nodesN q.w q.h q.c i).length ∧ xs = refO q.w q.h q.c (gAt d) i m) (fun ⟨m, ov, xs⟩ => (nodesN q.w q.h q.c i).length - m) ((0, .slice none 0 0, [])) (And.intro rfl (And.intro rfl (And.intro rfl (And.intro rfl (And.intro rfl (trivial)))))) (And.intro rfl (And.intro rfl (trivial))) (⟨by omega, rfl⟩) ent ?_
  rintro ⟨m, ov, xs⟩ ⟨hm, hxs⟩
  try dsimp only [ca, na, GridS.l, GridS.p, MeshS.l, MeshS.lF, MeshS.p, FinderS.l, FinderS.p, FinderS.lF, RouteS.l, RouteS.p, GridS.lT, RouteS.lT]
  have hxl : xs.length ≤ 1024 := by rw [hxs]; exact refO_len ..
  refine Sq (Sq (Rg ?_))
  refine rp 2 rfl ?_
  refine Wp (po_len rfl (by exact fc_slice_35_3_1)) ?_
  refine Wp (po_lt rfl rfl) ?_
  refine Sn (Aw ?_)
  refine Rc rfl ?_ ?_
  ·skip
   intro hlt
   have hml : m < (nodesN q.w q.h q.c i).length := by omega
   obtain ⟨c, hce⟩ : ∃ c, (nodesN q.w q.h q.c i)[(m : Int).toNat]'(by omega) = c := ⟨_, rfl⟩
   have hce' : (nodesN q.w q.h q.c i)[m] = c := hce
   refine Sk (Aw (Sq (Bk (Sq (Rg ?_)))))
   refine rp 1 rfl ?_
   refine Sn (Aw (Bk ?_))
   refine r_loop (S := Nat × Value × List Seed) (fun ⟨k, ov, zs⟩ => [(9, ov), (12, .int .i64 k)]) [(1, _), (2, _), (3, _), (4, _), (10, _), (11, _)] (fun ⟨k, ov, zs⟩ => [Blk b4 24 [.int .i64 q.w, .int .i64 q.h, cv], Sl eI v16 (nodesN q.w q.h q.c i), Sl eS ov zs, Sl eB cv q.c, Sl eI dv d, F]) (fun ⟨k, ov, zs⟩ => k ≤ 4 ∧ zs = xs ++ refS q.w q.h q.c (gAt d) c k) (fun ⟨k, ov, zs⟩ => 4 - k) ((0, ov, xs)) (And.intro rfl (And.intro rfl (And.intro rfl (And.intro rfl (And.intro rfl (And.intro rfl (trivial))))))) (And.intro rfl (And.intro rfl (trivial))) (⟨by omega, by simp [refS]⟩) ent ?_
   rintro ⟨k, ov, zs⟩ ⟨hk, hzs⟩
   try dsimp only [ca, na, GridS.l, GridS.p, MeshS.l, MeshS.lF, MeshS.p, FinderS.l, FinderS.p, FinderS.lF, RouteS.l, RouteS.p, GridS.lT, RouteS.lT]
   have hzl : zs.length ≤ 1028 := by rw [hzs, List.length_append]; have := refS_len q.w q.h q.c (gAt d) c k; omega
   refine Sq (Sq (Rg ?_))
   refine rp 1 rfl ?_
   refine Wp (po_le rfl rfl) ?_
   refine Sn (Aw ?_)
   refine Rc rfl ?_ ?_
   ·skip
    intro hk3
    generalize hn : overN q.w q.h c k = n
    refine Sk (Aw (Sq (Bk (Sq ?_))))
    refine r_ord [] _ [(0, 1), (1, 0), (2, 1), (3, 0), (4, 1), (5, 1), (6, 0), (7, 0), (8, 1), (9, 2), (10, 1)] fc_mixed (by kernel_rfl) (fun _ h => h) ?_
    refine Of rfl (po_faddr rfl (by exact fc_field_24_0_0)) ?_
    refine Or rfl (po_load rfl (by exact fc_flat_3) (by rfl)) ?_
    refine Of rfl (po_faddr rfl (by exact fc_field_24_1_1)) ?_
    refine Or rfl (po_load rfl (by exact fc_flat_3) (by rfl)) ?_
    refine Of rfl (po_move rfl) ?_
    refine Of rfl (po_move rfl) ?_
    refine Or rfl (po_iaddr rfl rfl (by exact fc_slice_35_3_1) (by first | omega | (simp <;> omega)) (by first | omega | (simp <;> omega))) ?_
    refine Or rfl (po_load_sl rfl (List.getElem?_eq_getElem (by first | omega | (simp <;> omega))) (by exact fc_flat_3) (by rfl)) ?_
    refine Of rfl (po_move rfl) ?_
    refine o_st rfl (st_call (co_fn rfl rfl) (ref_Over q.w q.h ((nodesN q.w q.h q.c i)[(m : Int).toNat]'(by omega)) k) (by infer_instance) rfl rfl rfl ?_)
    rintro v36 _ ⟨rfl, rfl⟩
    try dsimp only [ca, na, GridS.l, GridS.p, MeshS.l, MeshS.lF, MeshS.p, FinderS.l, FinderS.p, FinderS.lF, RouteS.l, RouteS.p, GridS.lT, RouteS.lT]
    refine ⟨fun _ => (by first | exact fun _ h => h | exact ent), ?_⟩
    rw [hce, hn]
    refine Of rfl (po_assign rfl) ?_
    refine o_nil ?_
    refine Aw (Sq (Rg ?_))
    refine Wp (po_loada rfl (by exact fc_agg_24_3) (by rfl)) ?_
    refine rp 1 rfl ?_
    refine Wc (co_fn rfl rfl) (ref_open q.w q.h cv q.c n) ?_
    rintro v39 _ ⟨rfl, rfl⟩
    try dsimp only [ca, na, GridS.l, GridS.p, MeshS.l, MeshS.lF, MeshS.p, FinderS.l, FinderS.p, FinderS.lF, RouteS.l, RouteS.p, GridS.lT, RouteS.lT]
    by_cases ho : Opn q.c n
    ·skip
     refine ws (st_po (po_bt (po_move rfl) (decide_eq_true ho)) rfl rfl rfl ?_)
     have hnl2 : 0 ≤ n ∧ n < q.c.length := ⟨ho.1, ho.2.1⟩
     have hgn : gAt q.c n = q.c[n.toNat]'(by omega) := gAt_get (by omega)
     have hgd : gAt d n = d[n.toNat]'(by omega) := gAt_get (by omega)
     have hbn := ok.bt _ (List.getElem_mem (show n.toNat < q.c.length by omega))
     have hbd := hdr _ (List.getElem_mem (show n.toNat < d.length by omega))
     refine rp 2 rfl ?_
     refine Wp (po_iaddr rfl rfl (by exact fc_slice_35_3_1) (by first | omega | (simp <;> omega)) (by first | omega | (simp <;> omega))) ?_
     refine Wp (po_load_sl rfl (List.getElem?_eq_getElem (by first | omega | (simp <;> omega))) (by exact fc_flat_3) (by rfl)) ?_
     refine Wp (po_lt rfl rfl) ?_
     refine rp 1 rfl ?_
     refine Sn (Aw ?_)
     refine Rc rfl ?_ ?_
     ·skip
      intro hdn
      refine r_ord [24] _ [(0, 1), (1, 1), (2, 0), (3, 1), (4, 0), (5, 1), (6, 1), (7, 0), (8, 0), (10, 1), (11, 1), (12, 0), (13, 1), (14, 0), (15, 0), (16, 1), (17, 1), (18, 1), (19, 0), (20, 0), (21, 1), (9, 2), (22, 2), (23, 2), (24, 2), (25, 1)] fc_mixed (by kernel_rfl) (fun _ h => h) ?_
      refine Of rfl (po_move rfl) ?_
      refine Of rfl (po_faddr rfl (by exact fc_field_24_0_0)) ?_
      refine Or rfl (po_load rfl (by exact fc_flat_3) (by rfl)) ?_
      refine Of rfl (po_faddr rfl (by exact fc_field_24_1_1)) ?_
      refine Or rfl (po_load rfl (by exact fc_flat_3) (by rfl)) ?_
      refine Of rfl (po_move rfl) ?_
      refine Of rfl (po_move rfl) ?_
      refine Or rfl (po_iaddr rfl rfl (by exact fc_slice_35_3_1) (by first | omega | (simp <;> omega)) (by first | omega | (simp <;> omega))) ?_
      refine Or rfl (po_load_sl rfl (List.getElem?_eq_getElem (by first | omega | (simp <;> omega))) (by exact fc_flat_3) (by rfl)) ?_
      refine Of rfl (po_move rfl) ?_
      refine Of rfl (po_faddr rfl (by exact fc_field_24_2_2)) ?_
      refine Or rfl (po_load rfl (by exact fc_flat_22) (by rfl)) ?_
      refine Of rfl (po_move rfl) ?_
      refine Or rfl (po_iaddr rfl rfl (by exact fc_slice_22_5_1) (by first | omega | (simp <;> omega)) (by first | omega | (simp <;> omega))) ?_
      refine Or rfl (po_load_sl rfl (List.getElem?_eq_getElem (by first | omega | (simp <;> omega))) (by exact fc_flat_5) (by rfl)) ?_
      refine Of rfl (po_conv_w rfl (by exact fc_int_5_u8) (by exact fc_int_3_i64) (wrap_i64 _ (by omega) (by omega))) ?_
      refine Of rfl (po_move rfl) ?_
      refine Of rfl (po_move rfl) ?_
      refine Or rfl (po_iaddr rfl rfl (by exact fc_slice_35_3_1) (by first | omega | (simp <;> omega)) (by first | omega | (simp <;> omega))) ?_
      refine Or rfl (po_load_sl rfl (List.getElem?_eq_getElem (by first | omega | (simp <;> omega))) (by exact fc_flat_3) (by rfl)) ?_
      refine Of rfl (po_add' rfl rfl (by omega) (by omega)) ?_
      refine o_st rfl (st_call (co_fn rfl rfl) (ref_Local q.w q.h ((nodesN q.w q.h q.c i)[(m : Int).toNat]'(by omega))) (by infer_instance) rfl rfl rfl ?_)
      rintro v56 _ ⟨rfl, rfl⟩
      try dsimp only [ca, na, GridS.l, GridS.p, MeshS.l, MeshS.lF, MeshS.p, FinderS.l, FinderS.p, FinderS.lF, RouteS.l, RouteS.p, GridS.lT, RouteS.lT]
      refine ⟨fun _ => (by first | exact fun _ h => h | exact ent), ?_⟩
      rw [hce]
      refine o_st rfl (st_po (po_build1 rfl (by exact fc_zero_45) (by exact fc_places_45_0_1_2) (by exact fc_info_45) rfl) rfl rfl rfl ?_)
      refine ⟨fun _ => (by first | exact fun _ h => h | exact ent), ?_⟩
      refine o_st rfl (st_xo (xo_bslice eS [⟨localN q.w q.h c, k, q.c[n.toNat]'(by omega) + d[n.toNat]'(by omega)⟩] rfl (by exact fc_slice_32_45_3) (by exact fc_elem_45_3_24) ⟨rfl, rfl, trivial⟩ rfl (by decide)) rfl rfl rfl ?_)
      rintro v70 _ rfl
      refine ⟨fun _ => (by first | exact fun _ h => h | exact ent), ?_⟩
      refine o_st rfl (st_xo (xo_append rfl rfl (by exact fc_slice_32_45_3) (by exact fc_slice_32_45_3) (by exact fc_elem_45_3_24) (by first | omega | (simp <;> omega)) (by first | omega | (simp <;> omega))) rfl rfl rfl ?_)
      rintro v71 _ rfl
      refine ⟨fun h => late_no h (by kernel_rfl), ?_⟩
      refine Of rfl (po_assign rfl) ?_
      refine o_nil ?_
      refine Bn (Aw (Rg ?_))
      refine rp 1 rfl ?_
      refine Wp (po_add' rfl rfl (by omega) (by omega)) ?_
      refine rp 1 rfl ?_
      refine Sn ?_
      rw [← hgn, ← hgd]
      exact at_again ((k + 1, v71, zs ++ [⟨localN q.w q.h c, k, gAt q.c n + gAt d n⟩])) (And.intro rfl (And.intro rfl (trivial))) (And.intro rfl (And.intro rfl (And.intro rfl (And.intro rfl (And.intro rfl (And.intro rfl (trivial))))))) (⟨by dsimp only; omega, by rw [refS_succ, hn, if_pos ⟨ho, by rw [hgd]; exact hdn⟩, hzs, List.append_assoc]⟩) (by dsimp only; omega) ent
     ·skip
      intro hdn
      refine Sk (Bn (Aw (Rg ?_)))
      refine rp 1 rfl ?_
      refine Wp (po_add' rfl rfl (by omega) (by omega)) ?_
      refine rp 1 rfl ?_
      refine Sn ?_
      exact at_again ((k + 1, ov, zs)) (And.intro rfl (And.intro rfl (trivial))) (And.intro rfl (And.intro rfl (And.intro rfl (And.intro rfl (And.intro rfl (And.intro rfl (trivial))))))) (⟨by dsimp only; omega, by rw [refS_succ, hn, if_neg (fun h => hdn (by have := h.2; rw [hgd] at this; exact this)), hzs, List.append_nil]⟩) (by dsimp only; omega) ent
    ·skip
     refine ws (st_po (po_bf (po_move rfl) (decide_eq_false ho)) rfl rfl rfl ?_)
     refine rp 6 rfl ?_
     refine Sn (Aw ?_)
     refine r_cond_f rfl rfl ?_
     refine Sk (Bn (Aw (Rg ?_)))
     refine rp 1 rfl ?_
     refine Wp (po_add' rfl rfl (by omega) (by omega)) ?_
     refine rp 1 rfl ?_
     refine Sn ?_
     exact at_again ((k + 1, ov, zs)) (And.intro rfl (And.intro rfl (trivial))) (And.intro rfl (And.intro rfl (And.intro rfl (And.intro rfl (And.intro rfl (And.intro rfl (trivial))))))) (⟨by dsimp only; omega, by rw [refS_succ, hn, if_neg (fun h => ho h.1), hzs, List.append_nil]⟩) (by dsimp only; omega) ent
   ·skip
    intro hk3
    refine Ex' (Ax (Ax (Bh (Bn (Aw (Rg ?_))))))
    refine rp 1 rfl ?_
    refine Wp (po_add' rfl rfl (by omega) (by omega)) ?_
    refine rp 1 rfl ?_
    refine Sn ?_
    exact at_again ((m + 1, ov, zs)) (And.intro rfl (And.intro rfl (trivial))) (And.intro rfl (And.intro rfl (And.intro rfl (And.intro rfl (And.intro rfl (trivial)))))) (⟨by dsimp only; omega, by unfold refO; rw [flat_snoc _ _ _ hml, hce', hzs, show k = 4 by omega, hxs]; rfl⟩) (by dsimp only; omega) ent
  ·skip
   intro hlt
   have hxs2 : xs = refO q.w q.h q.c (gAt d) i (nodesN q.w q.h q.c i).length := by rw [hxs, show m = (nodesN q.w q.h q.c i).length by omega]
   refine Ex' (Ax (Ax (Bh (Aw (Sq (Sq (Rg ?_)))))))
   refine Wp (po_faddr rfl (by exact fc_field_24_0_0)) ?_
   refine Wp (po_load rfl (by exact fc_flat_3) (by rfl)) ?_
   refine Wp (po_faddr rfl (by exact fc_field_24_1_1)) ?_
   refine Wp (po_load rfl (by exact fc_flat_3) (by rfl)) ?_
   refine rp 1 rfl ?_
   refine Wc (co_fn rfl rfl) (ref_Sector q.w q.h t) ?_
   rintro v77 _ ⟨rfl, rfl⟩
   try dsimp only [ca, na, GridS.l, GridS.p, MeshS.l, MeshS.lF, MeshS.p, FinderS.l, FinderS.p, FinderS.lF, RouteS.l, RouteS.p, GridS.lT, RouteS.lT]
   refine rp 1 rfl ?_
   refine Wp (po_eq rfl rfl) ?_
   by_cases hse : sectorN q.w q.h t = i
   ·skip
    refine ws (st_po (po_bt (po_move rfl) (decide_eq_true hse)) rfl rfl rfl ?_)
    refine Wp (po_loada rfl (by exact fc_agg_24_3) (by rfl)) ?_
    refine rp 1 rfl ?_
    refine Wc (co_fn rfl rfl) (ref_open q.w q.h cv q.c t) ?_
    rintro v83 _ ⟨rfl, rfl⟩
    try dsimp only [ca, na, GridS.l, GridS.p, MeshS.l, MeshS.lF, MeshS.p, FinderS.l, FinderS.p, FinderS.lF, RouteS.l, RouteS.p, GridS.lT, RouteS.lT]
    refine rp 1 rfl ?_
    refine Sn (Aw ?_)
    refine Rc rfl ?_ ?_
    ·skip
     intro hto
     refine Rg ?_
     refine rp 1 rfl ?_
     refine Wp (po_faddr rfl (by exact fc_field_24_0_0)) ?_
     refine Wp (po_load rfl (by exact fc_flat_3) (by rfl)) ?_
     refine Wp (po_faddr rfl (by exact fc_field_24_1_1)) ?_
     refine Wp (po_load rfl (by exact fc_flat_3) (by rfl)) ?_
     refine rp 1 rfl ?_
     refine Wc (co_fn rfl rfl) (ref_Local q.w q.h t) ?_
     rintro v91 _ ⟨rfl, rfl⟩
     try dsimp only [ca, na, GridS.l, GridS.p, MeshS.l, MeshS.lF, MeshS.p, FinderS.l, FinderS.p, FinderS.lF, RouteS.l, RouteS.p, GridS.lT, RouteS.lT]
     refine Wp (po_build1 rfl (by exact fc_zero_45) (by exact fc_places_45_0_1) (by exact fc_info_45) rfl) ?_
     refine Wx (xo_bslice eS [⟨localN q.w q.h t, 4, 0⟩] rfl (by exact fc_slice_32_45_3) (by exact fc_elem_45_3_24) ⟨rfl, rfl, trivial⟩ rfl (by decide)) ?_
     rintro v93 _ rfl
     refine Wx (xo_append rfl rfl (by exact fc_slice_32_45_3) (by exact fc_slice_32_45_3) (by exact fc_elem_45_3_24) (by first | omega | (simp <;> omega)) (by first | omega | (simp <;> omega))) ?_
     rintro v94 _ rfl
     refine rp 1 rfl ?_
     refine Sn (Aw (Sq (Rg ?_)))
     refine rp 1 rfl ?_
     refine Wc (co_fn rfl rfl) (ref_SortSeeds v94 (xs ++ [⟨localN q.w q.h t, 4, 0⟩]) (by rw [List.length_append, List.length_singleton]; omega)) ?_
     rintro v96 _ ⟨ys, rfl, hpw, hmm⟩
     try dsimp only [ca, na, GridS.l, GridS.p, MeshS.l, MeshS.lF, MeshS.p, FinderS.l, FinderS.p, FinderS.lF, RouteS.l, RouteS.p, GridS.lT, RouteS.lT]
     refine rp 1 rfl ?_
     refine Sn (Aw (Rt ?_))
     refine at_ret1 rfl (rv_tmp rfl) ⟨_, ⟨ys, rfl, hpw, fun s => by rw [hmm s, hxs2]; unfold refG; rw [if_pos ⟨hse, hto⟩]⟩, ?_⟩
     try dsimp only [ca, na, GridS.l, GridS.p, MeshS.l, MeshS.lF, MeshS.p, FinderS.l, FinderS.p, FinderS.lF, RouteS.l, RouteS.p, GridS.lT, RouteS.lT]
     exact ent
    ·skip
     intro hto
     refine Sk (Aw (Sq (Rg ?_)))
     refine rp 1 rfl ?_
     refine Wc (co_fn rfl rfl) (ref_SortSeeds ov xs (by omega)) ?_
     rintro v96 _ ⟨ys, rfl, hpw, hmm⟩
     try dsimp only [ca, na, GridS.l, GridS.p, MeshS.l, MeshS.lF, MeshS.p, FinderS.l, FinderS.p, FinderS.lF, RouteS.l, RouteS.p, GridS.lT, RouteS.lT]
     refine rp 1 rfl ?_
     refine Sn (Aw (Rt ?_))
     refine at_ret1 rfl (rv_tmp rfl) ⟨_, ⟨ys, rfl, hpw, fun s => by rw [hmm s, hxs2]; unfold refG; rw [if_neg (fun h => hto h.2), List.append_nil]⟩, ?_⟩
     try dsimp only [ca, na, GridS.l, GridS.p, MeshS.l, MeshS.lF, MeshS.p, FinderS.l, FinderS.p, FinderS.lF, RouteS.l, RouteS.p, GridS.lT, RouteS.lT]
     exact ent
   ·skip
    refine ws (st_po (po_bf (po_move rfl) (decide_eq_false hse)) rfl rfl rfl ?_)
    refine rp 4 rfl ?_
    refine Sn (Aw ?_)
    refine r_cond_f rfl rfl ?_
    refine Sk (Aw (Sq (Rg ?_)))
    refine rp 1 rfl ?_
    refine Wc (co_fn rfl rfl) (ref_SortSeeds ov xs (by omega)) ?_
    rintro v96 _ ⟨ys, rfl, hpw, hmm⟩
    try dsimp only [ca, na, GridS.l, GridS.p, MeshS.l, MeshS.lF, MeshS.p, FinderS.l, FinderS.p, FinderS.lF, RouteS.l, RouteS.p, GridS.lT, RouteS.lT]
    refine rp 1 rfl ?_
    refine Sn (Aw (Rt ?_))
    refine at_ret1 rfl (rv_tmp rfl) ⟨_, ⟨ys, rfl, hpw, fun s => by rw [hmm s, hxs2]; unfold refG; rw [if_neg (fun h => hse h.1), List.append_nil]⟩, ?_⟩
    try dsimp only [ca, na, GridS.l, GridS.p, MeshS.l, MeshS.lF, MeshS.p, FinderS.l, FinderS.p, FinderS.lF, RouteS.l, RouteS.p, GridS.lT, RouteS.lT]
    exact ent
end Hd
end
section
namespace Hd
set_option maxRecDepth 100000
open Go

theorem flat_rng {g : GridS} (ok : GridOk g) {t : Int} {d : List Int} (hl : d.length = g.c.length) (hd : ∀ c : Int, 0 ≤ c → c < g.c.length → gAt d c = flD g t c) : ∀ x ∈ d, 0 ≤ x ∧ x ≤ 1099511627776 := by
  intro x hx
  obtain ⟨i, hi, rfl⟩ := List.getElem_of_mem hx
  have hI : INF = 1099511627776 := rfl
  have h1 := hd i (by omega) (by omega)
  rw [gAt_nat hi] at h1
  have := (fl_is ok t).rng i
  omega
theorem law16_Asks (K : HP) (w h : Int) (cv : Value) (c : List Int) [Rd [K] cv Int eB c] (hc : ∀ x ∈ c, 0 ≤ x ∧ x ≤ 255) (goal sector : Int) (raw : Bool) :
    Spec PP 3 #[.int .i64 w, .int .i64 h, cv, .int .i64 goal, .int .i64 sector, .bool raw] [K] (fun v M => v = .bool true ∧ M = [K]) := by
  refine spec_of (Go.Proofs.Tryz.func3) rfl rfl rfl (by exact fc_enters_3) ?_
  intro g F
  try dsimp only [ca, na, GridS.l, GridS.p, MeshS.l, MeshS.lF, MeshS.p, FinderS.l, FinderS.p, FinderS.lF, RouteS.l, RouteS.p, GridS.lT, RouteS.lT]
  refine Sq (Rg ?_)
  refine rp 1 rfl ?_
  refine Sn (Aw (Sq (Rg ?_)))
  refine rp 3 rfl ?_
  refine Wc (co_fn rfl rfl) (ref_Made K w h cv c hc) ?_
  rintro v21 _ ⟨W, H, mv, C, rfl, rfl, hm⟩
  try dsimp only [ca, na, GridS.l, GridS.p, MeshS.l, MeshS.lF, MeshS.p, FinderS.l, FinderS.p, FinderS.lF, RouteS.l, RouteS.p, GridS.lT, RouteS.lT]
  have hmm := may_mul hm.may.1
  have hml := hm.len
  have hcn := made_cnt hm
  refine Wx (xo_alloc (by exact fc_zero_24)) ?_
  rintro _ _ ⟨b13, rfl, rfl⟩
  refine Ws (so_storea1 rfl rfl (by exact fc_agg_24_3) rfl rfl) ?_
  refine Sn (Aw (Sq (Rg ?_)))
  refine rp 1 rfl ?_
  refine Wp (po_faddr rfl (by exact fc_field_24_2_2)) ?_
  refine Wp (po_load rfl (by exact fc_flat_22) (by rfl)) ?_
  refine Wp (po_len rfl (by exact fc_slice_22_5_1)) ?_
  refine Wp (po_sub' rfl rfl (by omega) (by omega)) ?_
  refine Wc (co_fn rfl rfl) (ref_Within goal 0 ((C.length : Int) - 1) (by omega) (by omega) (by omega)) ?_
  rintro v27 _ ⟨rfl, rfl⟩
  try dsimp only [ca, na, GridS.l, GridS.p, MeshS.l, MeshS.lF, MeshS.p, FinderS.l, FinderS.p, FinderS.lF, RouteS.l, RouteS.p, GridS.lT, RouteS.lT]
  have htc := made_cell hm goal
  generalize 0 + goal % ((C.length : Int) - 1 - 0 + 1) = t at htc
  refine rp 1 rfl ?_
  refine Sn (Aw (Sq (Rg ?_)))
  refine Wp (po_loada rfl (by exact fc_agg_24_3) (by rfl)) ?_
  refine rp 1 rfl ?_
  refine Wc (co_fn rfl rfl) (law16_found W H mv C hm t htc) ?_
  rintro v31 _ ⟨f, r, rfl, rfl, ok, hw, hh, hcc, hep, hre, hg, hro, hvs⟩
  try dsimp only [ca, na, GridS.l, GridS.p, MeshS.l, MeshS.lF, MeshS.p, FinderS.l, FinderS.p, FinderS.lF, RouteS.l, RouteS.p, GridS.lT, RouteS.lT]
  subst hw hh hcc hg
  refine rp 5 rfl ?_
  refine Sn (Aw (Sq (Sq (Rg ?_))))
  refine rp 1 rfl ?_
  refine Wp (po_peq rfl rfl (by exact fc_ptr_27)) ?_
  refine Sn (Aw ?_)
  first | refine r_dec_f rfl (by simp) ?_ | refine r_nd_f rfl (by simp) ?_ | refine r_cond_f rfl (by simp) ?_
  refine Sk (Aw ?_)
  refine r_joink (S := Int) (fun i => [(4, .int .i64 i)]) [(13, _), (14, _), (15, _), (16, _)] (fun i => Blk b13 24 [.int .i64 f.m.g.w, .int .i64 f.m.g.h, mv] :: Sl eB mv f.m.g.c :: K :: f.m.g.lT (r.lT [F])) (fun i => True) (And.intro rfl (And.intro rfl (And.intro rfl (And.intro rfl (trivial))))) ?_ ?_
  ·skip
   refine Sq (Rg ?_)
   refine rp 1 rfl ?_
   refine Wp (po_not rfl) ?_
   refine Sn (Aw ?_)
   refine Rc rfl ?_ ?_
   ·skip
    intro hr
    refine Rg ?_
    refine rp 1 rfl ?_
    refine Wp (po_faddr rfl (by exact fc_field_24_0_0)) ?_
    refine Wp (po_load rfl (by exact fc_flat_3) (by rfl)) ?_
    refine Wp (po_faddr rfl (by exact fc_field_24_1_1)) ?_
    refine Wp (po_load rfl (by exact fc_flat_3) (by rfl)) ?_
    refine Wc (co_fn rfl rfl) (ref_Count f.m.g.w f.m.g.h) ?_
    rintro v43 _ ⟨rfl, rfl⟩
    try dsimp only [ca, na, GridS.l, GridS.p, MeshS.l, MeshS.lF, MeshS.p, FinderS.l, FinderS.p, FinderS.lF, RouteS.l, RouteS.p, GridS.lT, RouteS.lT]
    refine Wc (co_fn rfl rfl) (ref_Within sector (-1) ((secsN f.m.g.w f.m.g.h).1 * (secsN f.m.g.w f.m.g.h).2) (by omega) (by omega) (by omega)) ?_
    rintro v44 _ ⟨rfl, rfl⟩
    try dsimp only [ca, na, GridS.l, GridS.p, MeshS.l, MeshS.lF, MeshS.p, FinderS.l, FinderS.p, FinderS.lF, RouteS.l, RouteS.p, GridS.lT, RouteS.lT]
    refine rp 1 rfl ?_
    refine Sn ?_
    exact at_join ((-1 + sector % ((secsN f.m.g.w f.m.g.h).1 * (secsN f.m.g.w f.m.g.h).2 - -1 + 1))) (And.intro rfl (trivial)) (And.intro rfl (And.intro rfl (And.intro rfl (And.intro rfl (trivial))))) (trivial) ent
   ·skip
    intro hr
    refine Sk ?_
    exact at_join (sector) (And.intro rfl (trivial)) (And.intro rfl (And.intro rfl (And.intro rfl (And.intro rfl (trivial))))) (trivial) ent
  ·skip
   rintro i hI
   try dsimp only [ca, na, GridS.l, GridS.p, MeshS.l, MeshS.lF, MeshS.p, FinderS.l, FinderS.p, FinderS.lF, RouteS.l, RouteS.p, GridS.lT, RouteS.lT]
   refine Sq (Rg ?_)
   refine rp 1 rfl ?_
   refine Sn (Aw ?_)
   refine r_joink (S := Value × List Seed) (fun ⟨wv, ws⟩ => [(17, wv)]) [(4, _), (15, _), (16, _)] (fun ⟨wv, ws⟩ => Sl eS wv ws :: Blk b13 24 [.int .i64 f.m.g.w, .int .i64 f.m.g.h, mv] :: Sl eB mv f.m.g.c :: K :: f.m.g.lT (r.lT [F])) (fun ⟨wv, ws⟩ => ws.Pairwise ltS ∧ ∀ s, s ∈ ws ↔ s ∈ seedsG f.m.g.w f.m.g.h f.m.g.c (atN r) r.goal i) (And.intro rfl (And.intro rfl (And.intro rfl (trivial)))) ?_ ?_
   ·skip
    refine Sq (Rg ?_)
    refine rp 1 rfl ?_
    refine Wp (po_faddr rfl (by exact fc_field_24_0_0)) ?_
    refine Wp (po_load rfl (by exact fc_flat_3) (by rfl)) ?_
    refine Wp (po_faddr rfl (by exact fc_field_24_1_1)) ?_
    refine Wp (po_load rfl (by exact fc_flat_3) (by rfl)) ?_
    refine Wc (co_fn rfl rfl) (ref_Count f.m.g.w f.m.g.h) ?_
    rintro v50 _ ⟨rfl, rfl⟩
    try dsimp only [ca, na, GridS.l, GridS.p, MeshS.l, MeshS.lF, MeshS.p, FinderS.l, FinderS.p, FinderS.lF, RouteS.l, RouteS.p, GridS.lT, RouteS.lT]
    refine Wp (po_sub' rfl rfl (by omega) (by omega)) ?_
    refine Wc (co_fn rfl rfl) (ref_In i 0 ((secsN f.m.g.w f.m.g.h).1 * (secsN f.m.g.w f.m.g.h).2 - 1)) ?_
    rintro v52 _ ⟨rfl, rfl⟩
    try dsimp only [ca, na, GridS.l, GridS.p, MeshS.l, MeshS.lF, MeshS.p, FinderS.l, FinderS.p, FinderS.lF, RouteS.l, RouteS.p, GridS.lT, RouteS.lT]
    refine Sn (Aw ?_)
    refine Rc rfl ?_ ?_
    ·skip
     intro hin
     have his : IsS f.m.g.w f.m.g.h i := iss_of (by omega) (by omega)
     refine r_ord [] _ [(0, 0), (1, 1), (2, 0), (3, 1), (5, 1), (4, 2), (6, 2), (7, 1)] fc_mixed (by kernel_rfl) (fun _ h => h) ?_
     refine Or rfl (po_loada rfl (by exact fc_agg_24_3) (by rfl)) ?_
     refine Of rfl (po_move rfl) ?_
     refine Or rfl (po_loada rfl (by exact fc_agg_24_3) (by rfl)) ?_
     refine Of rfl (po_move rfl) ?_
     refine Of rfl (po_move rfl) ?_
     refine o_st rfl (st_call (co_fn rfl rfl) (ref_Flat f.m.g ok mv r.goal) (by infer_instance) rfl rfl rfl ?_)
     rintro v57 _ ⟨d, rfl, hdl, hd⟩
     try dsimp only [ca, na, GridS.l, GridS.p, MeshS.l, MeshS.lF, MeshS.p, FinderS.l, FinderS.p, FinderS.lF, RouteS.l, RouteS.p, GridS.lT, RouteS.lT]
     refine ⟨fun _ => (by first | exact fun _ h => h | exact ent), ?_⟩
     refine o_st rfl (st_call (co_fn rfl rfl) (ref_Seeds f.m.g ok mv v57 r.goal i d hdl (flat_rng ok hdl hd)) (by infer_instance) rfl rfl rfl ?_)
     rintro v59 _ ⟨ws, rfl, hwp, hwm⟩
     try dsimp only [ca, na, GridS.l, GridS.p, MeshS.l, MeshS.lF, MeshS.p, FinderS.l, FinderS.p, FinderS.lF, RouteS.l, RouteS.p, GridS.lT, RouteS.lT]
     refine ⟨fun _ => (by first | exact fun _ h => h | exact ent), ?_⟩
     refine Of rfl (po_assign rfl) ?_
     refine o_nil ?_
     exact at_join ((v59, ws)) (And.intro rfl (trivial)) (And.intro rfl (And.intro rfl (And.intro rfl (trivial)))) (⟨hwp, fun s => by rw [hwm s, mem_refG ok hro hd his htc]⟩) ent
    ·skip
     intro hin
     refine Sk ?_
     exact at_join ((.slice none 0 0, [])) (And.intro rfl (trivial)) (And.intro rfl (And.intro rfl (And.intro rfl (trivial)))) (⟨.nil, fun s => by rw [seedsG_none htc (fun h => hin (by have := h.2; rw [secsN, if_pos h.1]; dsimp only; omega))]⟩) ent
   ·skip
    rintro ⟨wv, ws⟩ ⟨hwp, hwm⟩
    try dsimp only [ca, na, GridS.l, GridS.p, MeshS.l, MeshS.lF, MeshS.p, FinderS.l, FinderS.p, FinderS.lF, RouteS.l, RouteS.p, GridS.lT, RouteS.lT]
    refine Sq (Rg ?_)
    refine Wc (co_fn rfl rfl) (law16_told) ?_
    rintro v60 _ ⟨rfl, rfl⟩
    try dsimp only [ca, na, GridS.l, GridS.p, MeshS.l, MeshS.lF, MeshS.p, FinderS.l, FinderS.p, FinderS.lF, RouteS.l, RouteS.p, GridS.lT, RouteS.lT]
    refine Wp (po_bt (po_move rfl) (rfl)) ?_
    refine rp 3 rfl ?_
    refine Wc (co_fn rfl rfl) (inject_Seeds f.m.g ok r hro.rng (by rw [hre, hep]) htc i) ?_
    rintro v65 _ ⟨ys, rfl, hp, hs⟩
    try dsimp only [ca, na, GridS.l, GridS.p, MeshS.l, MeshS.lF, MeshS.p, FinderS.l, FinderS.p, FinderS.lF, RouteS.l, RouteS.p, GridS.lT, RouteS.lT]
    have hyl : ys.length ≤ 1025 := by rw [hp.length_eq]; exact seedsG_len ..
    have hyw : ys = ws := sorted_ext hs hwp fun s => by rw [hwm s, hp.mem_iff]
    refine rp 1 rfl ?_
    refine Wc (co_fn rfl rfl) (ref_SameSeeds v65 wv ys ws (by omega)) ?_
    rintro v67 _ ⟨rfl, rfl⟩
    try dsimp only [ca, na, GridS.l, GridS.p, MeshS.l, MeshS.lF, MeshS.p, FinderS.l, FinderS.p, FinderS.lF, RouteS.l, RouteS.p, GridS.lT, RouteS.lT]
    refine rp 2 rfl ?_
    refine Sn (Aw (Rt ?_))
    refine at_ret1 rfl (rv_tmp rfl) ⟨_, ⟨by rw [decide_eq_true hyw], rfl⟩, ?_⟩
    try dsimp only [ca, na, GridS.l, GridS.p, MeshS.l, MeshS.lF, MeshS.p, FinderS.l, FinderS.p, FinderS.lF, RouteS.l, RouteS.p, GridS.lT, RouteS.lT]
    exact ent
end Hd
end
