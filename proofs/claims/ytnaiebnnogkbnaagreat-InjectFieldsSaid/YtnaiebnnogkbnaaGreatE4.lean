/- Contracts of functions of the program, and the laws of memory that they are proved with: part 4. -/
import Derived.Test.YtnaiebnnogkbnaaGreatE3
set_option linter.unusedVariables false
set_option linter.unusedSimpArgs false
section
namespace Hd
set_option maxRecDepth 100000
open Go

/-- 8.1, of one seed, as the document says it -/
def RefSd (t : Tile) (s : Seed) : Prop := (0 ≤ s.cell ∧ s.cell < t.c.length) ∧ gAt t.c s.cell ≠ 255 ∧ (0 ≤ s.key ∧ s.key ≤ 1073741824) ∧ (0 ≤ s.side ∧ s.side ≤ 4) ∧ (s.side ≠ 4 → stepN t.w t.h s.cell s.side < 0)
theorem ref_MaySeeds (tc lv : Value) (t : Tile) (l : List Seed) (hm : MayT t) (hl : t.c.length ≤ 2^30) (hll : l.length ≤ 2^30) (hs : ∀ s ∈ l, RefSd t s) :
    Spec PP 22 #[tileV tc t, lv] [Sl eB tc t.c, Sl eS lv l] (fun v M => v = .bool true ∧ M = [Sl eB tc t.c, Sl eS lv l]) := by
  refine spec_of (Go.Proofs.Tryz.func22) rfl rfl rfl (by exact fc_enters_22) ?_
  intro g F
  try dsimp only [ca, na, GridS.l, GridS.p, MeshS.l, MeshS.lF, MeshS.p, FinderS.l, FinderS.p, FinderS.lF, RouteS.l, RouteS.p, GridS.lT, RouteS.lT]
  refine Sq (Rg ?_)
  refine Wx (xo_box rfl rfl) ?_
  rintro _ _ ⟨b2, rfl, rfl⟩
  refine rp 1 rfl ?_
  refine Sn (Aw (Sq (Sq (Rg ?_))))
  refine Wp (po_loada rfl (by exact fc_agg_41_3) (by rfl)) ?_
  refine Wc (co_fn rfl rfl) (ref_MayTile tc t hl) ?_
  rintro v8 _ ⟨rfl, rfl⟩
  try dsimp only [ca, na, GridS.l, GridS.p, MeshS.l, MeshS.lF, MeshS.p, FinderS.l, FinderS.p, FinderS.lF, RouteS.l, RouteS.p, GridS.lT, RouteS.lT]
  refine Wp (po_not rfl) ?_
  refine Sn (Aw ?_)
  first | refine r_dec_f rfl (by simp [hm]) ?_ | refine r_nd_f rfl (by simp [hm]) ?_ | refine r_cond_f rfl (by simp [hm]) ?_
  refine Sk (Aw (Sq (Sq (Rg ?_))))
  refine rp 1 rfl ?_
  refine Sn (Aw (Bk ?_))
  refine r_loop (S := Nat) (fun k => [(5, .int .i64 k)]) [(1, _), (2, _)] (fun k => [Sl eB tc t.c, Sl eS lv l, Blk b2 41 [.int .i64 t.w, .int .i64 t.h, tc], F]) (fun k => k ≤ l.length) (fun k => l.length - k) (0) (And.intro rfl (And.intro rfl (trivial))) (And.intro rfl (trivial)) (by omega) ent ?_
  rintro k hk
  try dsimp only [ca, na, GridS.l, GridS.p, MeshS.l, MeshS.lF, MeshS.p, FinderS.l, FinderS.p, FinderS.lF, RouteS.l, RouteS.p, GridS.lT, RouteS.lT]
  refine Sq (Sq (Rg ?_))
  refine rp 2 rfl ?_
  refine Wp (po_len rfl (by exact fc_slice_32_45_3)) ?_
  refine Wp (po_lt rfl rfl) ?_
  refine Sn (Aw ?_)
  refine Rc rfl ?_ ?_
  ·skip
   intro hlt
   obtain ⟨s, hse⟩ : ∃ s, l[(k : Int).toNat]'(by omega) = s := ⟨_, rfl⟩
   have hr := hs s (hse ▸ List.getElem_mem _)
   unfold RefSd at hr
   have hg : gAt t.c s.cell = t.c[s.cell.toNat]'(by omega) := gAt_get (by omega)
   refine Sk (Aw (Sq (Bk (Sq (Rg ?_)))))
   refine rp 2 rfl ?_
   refine Wp (po_iaddr rfl rfl (by exact fc_slice_32_45_3) (by first | omega | (simp <;> omega)) (by first | omega | (simp <;> omega))) ?_
   refine Wp (ld_eS rfl (List.getElem?_eq_getElem (by first | omega | (simp <;> omega))) (by exact fc_agg_45_3)) ?_
   refine Wx (xo_alloc (by exact fc_zero_45)) ?_
   rintro _ _ ⟨b6, rfl, rfl⟩
   refine Ws (so_storea1 rfl rfl (by exact fc_agg_45_3) rfl rfl) ?_
   refine Sn (Aw (Sq (Sq ?_)))
   rw [hse]
   refine Rg ?_
   refine Wp (po_faddr rfl (by exact fc_field_45_0_0)) ?_
   refine Wp (po_load rfl (by exact fc_flat_3) (by rfl)) ?_
   refine Wp (po_faddr rfl (by exact fc_field_41_2_2)) ?_
   refine Wp (po_load rfl (by exact fc_flat_22) (by rfl)) ?_
   refine Wp (po_len rfl (by exact fc_slice_22_5_1)) ?_
   refine Wp (po_sub' rfl rfl (by omega) (by omega)) ?_
   refine Wc (co_fn rfl rfl) (ref_In s.cell 0 ((t.c.length : Int) - 1)) ?_
   rintro v26 _ ⟨rfl, rfl⟩
   try dsimp only [ca, na, GridS.l, GridS.p, MeshS.l, MeshS.lF, MeshS.p, FinderS.l, FinderS.p, FinderS.lF, RouteS.l, RouteS.p, GridS.lT, RouteS.lT]
   refine Wp (po_not rfl) ?_
   refine Wp (po_bf (po_move rfl) (by rw [decide_eq_true (by omega)]; rfl)) ?_
   refine Wp (po_faddr rfl (by exact fc_field_41_2_2)) ?_
   refine Wp (po_load rfl (by exact fc_flat_22) (by rfl)) ?_
   refine Wp (po_faddr rfl (by exact fc_field_45_0_0)) ?_
   refine Wp (po_load rfl (by exact fc_flat_3) (by rfl)) ?_
   refine Wp (po_iaddr rfl rfl (by exact fc_slice_22_5_1) (by first | omega | (simp <;> omega)) (by first | omega | (simp <;> omega))) ?_
   refine Wp (po_load_sl rfl (List.getElem?_eq_getElem (by first | omega | (simp <;> omega))) (by exact fc_flat_5) (by rfl)) ?_
   refine Wp (po_eq rfl rfl) ?_
   refine rp 1 rfl ?_
   refine Wp (po_bf (po_move rfl) (decide_eq_false (by rw [← hg]; exact hr.2.1))) ?_
   refine Wp (po_faddr rfl (by exact fc_field_45_2_2)) ?_
   refine Wp (po_load rfl (by exact fc_flat_3) (by rfl)) ?_
   refine Wc (co_fn rfl rfl) (ref_In s.key 0 1073741824) ?_
   rintro v40 _ ⟨rfl, rfl⟩
   try dsimp only [ca, na, GridS.l, GridS.p, MeshS.l, MeshS.lF, MeshS.p, FinderS.l, FinderS.p, FinderS.lF, RouteS.l, RouteS.p, GridS.lT, RouteS.lT]
   refine Wp (po_not rfl) ?_
   refine rp 1 rfl ?_
   refine Wp (po_bf (po_move rfl) (by rw [decide_eq_true (by omega)]; rfl)) ?_
   refine Wp (po_faddr rfl (by exact fc_field_45_1_1)) ?_
   refine Wp (po_load rfl (by exact fc_flat_3) (by rfl)) ?_
   refine Wc (co_fn rfl rfl) (ref_In s.side 0 4) ?_
   rintro v46 _ ⟨rfl, rfl⟩
   try dsimp only [ca, na, GridS.l, GridS.p, MeshS.l, MeshS.lF, MeshS.p, FinderS.l, FinderS.p, FinderS.lF, RouteS.l, RouteS.p, GridS.lT, RouteS.lT]
   refine Wp (po_not rfl) ?_
   refine rp 1 rfl ?_
   refine Sn (Aw ?_)
   first | refine r_dec_f rfl (by rw [decide_eq_true (by omega)]; simp) ?_ | refine r_nd_f rfl (by rw [decide_eq_true (by omega)]; simp) ?_ | refine r_cond_f rfl (by rw [decide_eq_true (by omega)]; simp) ?_
   refine Sk (Aw (Sq (Rg ?_)))
   refine Wp (po_faddr rfl (by exact fc_field_45_1_1)) ?_
   refine Wp (po_load rfl (by exact fc_flat_3) (by rfl)) ?_
   refine Wp (po_ne rfl rfl) ?_
   by_cases h4 : s.side ≠ 4
   ·skip
    refine ws (st_po (po_bt (po_move rfl) (decide_eq_true h4)) rfl rfl rfl ?_)
    refine Wp (po_loada rfl (by exact fc_agg_41_3) (by rfl)) ?_
    refine Wp (po_faddr rfl (by exact fc_field_45_0_0)) ?_
    refine Wp (po_load rfl (by exact fc_flat_3) (by rfl)) ?_
    refine Wp (po_faddr rfl (by exact fc_field_45_1_1)) ?_
    refine Wp (po_load rfl (by exact fc_flat_3) (by rfl)) ?_
    refine Wc (co_fn rfl rfl) (ref_Near tc t s.cell s.side hl hm hr.1) ?_
    rintro v58 _ ⟨rfl, rfl⟩
    try dsimp only [ca, na, GridS.l, GridS.p, MeshS.l, MeshS.lF, MeshS.p, FinderS.l, FinderS.p, FinderS.lF, RouteS.l, RouteS.p, GridS.lT, RouteS.lT]
    refine Wp (po_ge rfl rfl) ?_
    refine rp 1 rfl ?_
    refine Sn (Aw ?_)
    first | refine r_dec_f rfl (by have := hr.2.2.2.2 h4; omega) ?_ | refine r_nd_f rfl (by have := hr.2.2.2.2 h4; omega) ?_ | refine r_cond_f rfl (by have := hr.2.2.2.2 h4; omega) ?_
    refine Sk (Bn (Aw (Rg ?_)))
    refine rp 1 rfl ?_
    refine Wp (po_add' rfl rfl (by omega) (by omega)) ?_
    refine rp 1 rfl ?_
    refine Sn ?_
    exact at_again (k + 1) (And.intro rfl (trivial)) (And.intro rfl (And.intro rfl (trivial))) (by omega) (by omega) ent
   ·skip
    refine ws (st_po (po_bf (po_move rfl) (decide_eq_false h4)) rfl rfl rfl ?_)
    refine rp 8 rfl ?_
    refine Sn (Aw ?_)
    refine r_cond_f rfl rfl ?_
    refine Sk (Bn (Aw (Rg ?_)))
    refine rp 1 rfl ?_
    refine Wp (po_add' rfl rfl (by omega) (by omega)) ?_
    refine rp 1 rfl ?_
    refine Sn ?_
    exact at_again (k + 1) (And.intro rfl (trivial)) (And.intro rfl (And.intro rfl (trivial))) (by omega) (by omega) ent
  ·skip
   intro hlt
   refine Ex' (Ax (Ax (Bh (Aw (Sq (Rg ?_))))))
   refine rp 1 rfl ?_
   refine Sn (Aw (Rt ?_))
   refine at_ret1 rfl (rv_tmp rfl) ⟨_, ⟨rfl, rfl⟩, ?_⟩
   try dsimp only [ca, na, GridS.l, GridS.p, MeshS.l, MeshS.lF, MeshS.p, FinderS.l, FinderS.p, FinderS.lF, RouteS.l, RouteS.p, GridS.lT, RouteS.lT]
   exact ent
/-- what a sector is told may be told -/
theorem seedsG_may {g : GridS} (ok : GridOk g) {A : Int → Int} (hA : ∀ c, A c ≠ INF → 0 ≤ A c ∧ A c ≤ 255 * g.c.length) {t i : Int} (hi : IsS g.w g.h i) (ht : IsC g.w g.h t) {s : Seed} (hs : s ∈ seedsG g.w g.h g.c A t i) : RefSd (tileN g i) s := by
  have hlen := ok.len
  have hmul := may_mul ok.may
  unfold seedsG at hs
  rcases List.mem_append.1 hs with h | h
  · obtain ⟨c, k, hc, hci, hk, hn, hne, hAi, rfl⟩ := (mem_seedsO ok hi).1 h
    have hin : InS g.w g.h g.c i c := ⟨hc.1, hc.2, hci⟩
    have ho := local_opn ok hin
    have hcn := opn_cost ok hn.1
    have hAr := hA _ hAi
    refine ⟨⟨ho.1, ho.2.1⟩, ho.2.2, ⟨by dsimp only; omega, by dsimp only; omega⟩, ⟨by dsimp only; omega, by dsimp only; omega⟩, fun _ => ?_⟩
    dsimp only
    rcases Int.lt_or_le (stepN (tileN g i).w (tileN g i).h (localN g.w g.h c) k) 0 with h1 | h1
    · exact h1
    · have := (step_in hc.2 hk).2 (by rw [hci]; exact h1)
      rw [hci] at this
      exact absurd this.2 hne
  · split at h
    · rename_i h1
      rw [List.mem_singleton] at h
      subst h
      have hto : Opn g.c t := by
        refine ⟨ht.2.1, by have := ht.2.2; omega, ?_⟩
        rw [← cost_opn ok ht]; exact h1.2
      have ho := local_opn ok ⟨hto, ht, h1.1⟩
      exact ⟨⟨ho.1, ho.2.1⟩, ho.2.2, ⟨by dsimp only; omega, by dsimp only; omega⟩, ⟨by dsimp only; omega, by dsimp only; omega⟩, fun h => absurd rfl h⟩
    · cases h
theorem atN_le {g : GridS} (ok : GridOk g) {r : RouteS} (hr : RouteOk g r) (c : Int) (h : atN r c ≠ INF) : 0 ≤ atN r c ∧ atN r c ≤ 255 * g.c.length := by
  have hI : INF = 1099511627776 := rfl
  rw [hr.at ok] at h ⊢
  split at h
  · rename_i hn
    rw [if_pos hn]
    have := (fl_is ok r.goal).rng c
    exact fl_bound ok r.goal (by omega)
  · exact absurd rfl h
def own4 (s : Seed) : Bool := decide (s.side = 4)
theorem seedsO_no4 {g : GridS} (ok : GridOk g) {A : Int → Int} {i : Int} (hi : IsS g.w g.h i) : (seedsO g.w g.h g.c A i).countP own4 = 0 := by
  rw [List.countP_eq_zero]
  intro s hs
  obtain ⟨c, k, _, _, hk, _, _, _, rfl⟩ := (mem_seedsO ok hi).1 hs
  unfold own4
  simp only [decide_eq_true_eq]; omega
theorem seedsG_own {g : GridS} (ok : GridOk g) {A : Int → Int} {t i : Int} (hi : IsS g.w g.h i) : (seedsG g.w g.h g.c A t i).countP own4 = if sectorN g.w g.h t = i ∧ costN g.c t ≠ 255 then 1 else 0 := by
  unfold seedsG
  rw [List.countP_append, seedsO_no4 ok hi]
  split <;> simp [own4]
/-- what a seed tells -/
structure Tells (g : GridS) (A : Int → Int) (t i : Int) (s : Seed) : Prop where
  here : s.side = 4 → s.key = 0 ∧ globalN g.w g.h i s.cell = t
  over : s.side ≠ 4 → IsC g.w g.h (stepN g.w g.h (globalN g.w g.h i s.cell) s.side) ∧ s.key = gAt g.c (stepN g.w g.h (globalN g.w g.h i s.cell) s.side) + A (stepN g.w g.h (globalN g.w g.h i s.cell) s.side)
theorem seedsG_tells {g : GridS} (ok : GridOk g) {A : Int → Int} {t i : Int} (hi : IsS g.w g.h i) (ht : IsC g.w g.h t) {s : Seed} (hs : s ∈ seedsG g.w g.h g.c A t i) : Tells g A t i s := by
  unfold seedsG at hs
  rcases List.mem_append.1 hs with h | h
  · obtain ⟨c, k, hc, hci, hk, hn, hne, hAi, rfl⟩ := (mem_seedsO ok hi).1 h
    have e := global_local hc.2
    rw [hci] at e
    exact ⟨fun h4 => absurd h4 (by dsimp only; omega), fun _ => by dsimp only; rw [e]; exact ⟨hn.2, rfl⟩⟩
  · split at h
    · rename_i h1
      rw [List.mem_singleton] at h
      subst h
      have e := global_local ht
      rw [h1.1] at e
      exact ⟨fun _ => ⟨rfl, e⟩, fun h4 => absurd rfl h4⟩
    · cases h
theorem take_cnt {l : List Seed} {k : Nat} (h : k < l.length) : (l.take (k + 1)).countP own4 = (l.take k).countP own4 + if own4 l[k] = true then 1 else 0 := by
  rw [take_snoc l k h, List.countP_append]; simp [List.countP_cons]
theorem law16_Sides (K : HP) (w h : Int) (cv : Value) (c : List Int) [Rd [K] cv Int eB c] (hc : ∀ x ∈ c, 0 ≤ x ∧ x ≤ 255) (goal sector : Int) :
    Spec PP 4 #[.int .i64 w, .int .i64 h, cv, .int .i64 goal, .int .i64 sector] [K] (fun v M => v = .bool true ∧ M = [K]) := by
  refine spec_of (Go.Proofs.Tryz.func4) rfl rfl rfl (by exact fc_enters_4) ?_
  intro g F
  try dsimp only [ca, na, GridS.l, GridS.p, MeshS.l, MeshS.lF, MeshS.p, FinderS.l, FinderS.p, FinderS.lF, RouteS.l, RouteS.p, GridS.lT, RouteS.lT]
  refine Sq (Rg ?_)
  refine rp 1 rfl ?_
  refine Sn (Aw (Sq (Rg ?_)))
  refine rp 3 rfl ?_
  refine Wc (co_fn rfl rfl) (ref_Made K w h cv c hc) ?_
  rintro v27 _ ⟨W, H, mv, C, rfl, rfl, hm⟩
  try dsimp only [ca, na, GridS.l, GridS.p, MeshS.l, MeshS.lF, MeshS.p, FinderS.l, FinderS.p, FinderS.lF, RouteS.l, RouteS.p, GridS.lT, RouteS.lT]
  have hmm := may_mul hm.may.1
  have hml := hm.len
  have hcn := made_cnt hm
  refine Wx (xo_alloc (by exact fc_zero_24)) ?_
  rintro _ _ ⟨b11, rfl, rfl⟩
  refine Ws (so_storea1 rfl rfl (by exact fc_agg_24_3) rfl rfl) ?_
  refine Sn (Aw (Sq (Rg ?_)))
  refine rp 1 rfl ?_
  refine Wp (po_faddr rfl (by exact fc_field_24_2_2)) ?_
  refine Wp (po_load rfl (by exact fc_flat_22) (by rfl)) ?_
  refine Wp (po_len rfl (by exact fc_slice_22_5_1)) ?_
  refine Wp (po_sub' rfl rfl (by omega) (by omega)) ?_
  refine Wc (co_fn rfl rfl) (ref_Within goal 0 ((C.length : Int) - 1) (by omega) (by omega) (by omega)) ?_
  rintro v33 _ ⟨rfl, rfl⟩
  try dsimp only [ca, na, GridS.l, GridS.p, MeshS.l, MeshS.lF, MeshS.p, FinderS.l, FinderS.p, FinderS.lF, RouteS.l, RouteS.p, GridS.lT, RouteS.lT]
  have htc := made_cell hm goal
  generalize 0 + goal % ((C.length : Int) - 1 - 0 + 1) = t at htc
  refine rp 1 rfl ?_
  refine Sn (Aw (Sq (Rg ?_)))
  refine Wp (po_loada rfl (by exact fc_agg_24_3) (by rfl)) ?_
  refine rp 1 rfl ?_
  refine Wc (co_fn rfl rfl) (law16_found W H mv C hm t htc) ?_
  rintro v37 _ ⟨f, r, rfl, rfl, ok, hw, hh, hcc, hep, hre, hg, hro, hvs⟩
  try dsimp only [ca, na, GridS.l, GridS.p, MeshS.l, MeshS.lF, MeshS.p, FinderS.l, FinderS.p, FinderS.lF, RouteS.l, RouteS.p, GridS.lT, RouteS.lT]
  refine rp 5 rfl ?_
  refine Sn (Aw (Sq (Sq (Rg ?_))))
  refine rp 1 rfl ?_
  refine Wp (po_peq rfl rfl (by exact fc_ptr_27)) ?_
  refine Sn (Aw ?_)
  first | refine r_dec_f rfl (by simp) ?_ | refine r_nd_f rfl (by simp) ?_ | refine r_cond_f rfl (by simp) ?_
  refine Sk (Aw (Sq (Rg ?_)))
  refine rp 1 rfl ?_
  refine Wp (po_faddr rfl (by exact fc_field_24_0_0)) ?_
  refine Wp (po_load rfl (by exact fc_flat_3) (by rfl)) ?_
  refine Wp (po_faddr rfl (by exact fc_field_24_1_1)) ?_
  refine Wp (po_load rfl (by exact fc_flat_3) (by rfl)) ?_
  refine Wc (co_fn rfl rfl) (ref_Count W H) ?_
  rintro v47 _ ⟨rfl, rfl⟩
  try dsimp only [ca, na, GridS.l, GridS.p, MeshS.l, MeshS.lF, MeshS.p, FinderS.l, FinderS.p, FinderS.lF, RouteS.l, RouteS.p, GridS.lT, RouteS.lT]
  refine Wp (po_sub' rfl rfl (by omega) (by omega)) ?_
  refine Wc (co_fn rfl rfl) (ref_Within sector 0 ((secsN W H).1 * (secsN W H).2 - 1) (by omega) (by omega) (by omega)) ?_
  rintro v49 _ ⟨rfl, rfl⟩
  try dsimp only [ca, na, GridS.l, GridS.p, MeshS.l, MeshS.lF, MeshS.p, FinderS.l, FinderS.p, FinderS.lF, RouteS.l, RouteS.p, GridS.lT, RouteS.lT]
  have his := made_sec hm sector
  generalize 0 + sector % ((secsN W H).1 * (secsN W H).2 - 1 - 0 + 1) = i at his
  refine rp 1 rfl ?_
  refine Sn (Aw (Sq (Rg ?_)))
  refine rp 2 rfl ?_
  refine Wc (co_fn rfl rfl) (grid_Tile f.m.g i ok (by rw [hw, hh]; exact his)) ?_
  rintro v53 _ ⟨tc, rfl, rfl⟩
  try dsimp only [ca, na, GridS.l, GridS.p, MeshS.l, MeshS.lF, MeshS.p, FinderS.l, FinderS.p, FinderS.lF, RouteS.l, RouteS.p, GridS.lT, RouteS.lT]
  refine rp 3 rfl ?_
  refine Wx (xo_alloc (by exact fc_zero_41)) ?_
  rintro _ _ ⟨b16, rfl, rfl⟩
  refine Ws (so_storea1 rfl rfl (by exact fc_agg_41_3) rfl rfl) ?_
  refine rp 1 rfl ?_
  refine Sn (Aw (Sq (Rg ?_)))
  refine rp 3 rfl ?_
  refine Wc (co_fn rfl rfl) (inject_Seeds f.m.g ok r hro.rng (by rw [hre, hep]) (by rw [hg, hw, hh]; exact htc) i) ?_
  rintro v59 _ ⟨ys, rfl, hp, hs⟩
  try dsimp only [ca, na, GridS.l, GridS.p, MeshS.l, MeshS.lF, MeshS.p, FinderS.l, FinderS.p, FinderS.lF, RouteS.l, RouteS.p, GridS.lT, RouteS.lT]
  have his' : IsS f.m.g.w f.m.g.h i := by rw [hw, hh]; exact his
  have htc' : IsC f.m.g.w f.m.g.h r.goal := by rw [hw, hh, hg]; exact htc
  have hyl : ys.length ≤ 1025 := by rw [hp.length_eq]; exact seedsG_len ..
  have htl : ∀ s ∈ ys, Tells f.m.g (atN r) t i s := fun s h => by have := seedsG_tells ok his' htc' (hp.mem_iff.1 h); rw [hg] at this; exact this
  have hmy : ∀ s ∈ ys, RefSd (tileN f.m.g i) s := fun s h => seedsG_may ok (fun c h2 => atN_le ok hro c h2) his' htc' (hp.mem_iff.1 h)
  have hpw : ys.Pairwise fun x y => ¬ (x.cell = y.cell ∧ x.side = y.side) := (hp.pairwise_iff (fun h1 h2 => h1 ⟨h2.1.symm, h2.2.symm⟩)).2 (seedsG_pw ok his')
  have hcnt : ys.countP own4 = if sectorN W H t = i ∧ costN C t ≠ 255 then 1 else 0 := by rw [hp.countP_eq, seedsG_own ok his', hw, hh, hcc, hg]
  refine rp 1 rfl ?_
  refine Sn (Aw (Sq (Rg ?_)))
  refine rp 1 rfl ?_
  refine Sn (Aw (Sq (Sq (Rg ?_))))
  refine rp 1 rfl ?_
  refine Sn (Aw (Bk ?_))
  refine r_loop (S := Nat) (fun k => [(19, .int .i64 ((ys.take k).countP own4 : Nat)), (20, .int .i64 k)]) [(11, _), (12, _), (14, _), (15, _), (16, _), (17, _), (18, _)] (fun k => Sl eS v59 ys :: Blk b16 41 [.int .i64 (tileN f.m.g i).w, .int .i64 (tileN f.m.g i).h, tc] :: Sl eB tc (tileN f.m.g i).c :: Blk b11 24 [.int .i64 W, .int .i64 H, mv] :: Sl eB mv C :: K :: r.lT [F]) (fun k => k ≤ ys.length) (fun k => ys.length - k) (0) (And.intro rfl (And.intro rfl (And.intro rfl (And.intro rfl (And.intro rfl (And.intro rfl (And.intro rfl (trivial)))))))) (And.intro rfl (And.intro rfl (trivial))) (by omega) ent ?_
  rintro k hk
  try dsimp only [ca, na, GridS.l, GridS.p, MeshS.l, MeshS.lF, MeshS.p, FinderS.l, FinderS.p, FinderS.lF, RouteS.l, RouteS.p, GridS.lT, RouteS.lT]
  have hcl : (ys.take k).countP own4 ≤ k := Nat.le_trans List.countP_le_length (by rw [List.length_take]; omega)
  refine Sq (Sq (Rg ?_))
  refine rp 2 rfl ?_
  refine Wp (po_len rfl (by exact fc_slice_32_45_3)) ?_
  refine Wp (po_lt rfl rfl) ?_
  refine Sn (Aw ?_)
  refine Rc rfl ?_ ?_
  ·skip
   intro hlt
   have hkl : k < ys.length := by omega
   have hkm : ys[(k : Int).toNat]'(by omega) ∈ ys := List.getElem_mem _
   have hT1 : (ys[(k : Int).toNat]'(by omega)).side = 4 → (ys[(k : Int).toNat]'(by omega)).key = 0 ∧ globalN W H i (ys[(k : Int).toNat]'(by omega)).cell = t := by have := (htl _ hkm).here; rw [hw, hh] at this; exact this
   have hT2 : (ys[(k : Int).toNat]'(by omega)).side ≠ 4 → IsC W H (stepN W H (globalN W H i (ys[(k : Int).toNat]'(by omega)).cell) (ys[(k : Int).toNat]'(by omega)).side) ∧ (ys[(k : Int).toNat]'(by omega)).key = gAt C (stepN W H (globalN W H i (ys[(k : Int).toNat]'(by omega)).cell) (ys[(k : Int).toNat]'(by omega)).side) + atN r (stepN W H (globalN W H i (ys[(k : Int).toNat]'(by omega)).cell) (ys[(k : Int).toNat]'(by omega)).side) := by have := (htl _ hkm).over; rw [hw, hh, hcc] at this; exact this
   refine Sk (Aw (Sq (Bk ?_)))
   refine r_joink (S := Unit) (fun _ => [(19, .int .i64 ((ys.take (k + 1)).countP own4 : Nat))]) [(11, _), (12, _), (14, _), (15, _), (16, _), (17, _), (18, _), (20, _)] (fun _ => Sl eS v59 ys :: Blk b16 41 [.int .i64 (tileN f.m.g i).w, .int .i64 (tileN f.m.g i).h, tc] :: Sl eB tc (tileN f.m.g i).c :: Blk b11 24 [.int .i64 W, .int .i64 H, mv] :: Sl eB mv C :: K :: r.lT [F]) (fun _ => True) (And.intro rfl (And.intro rfl (And.intro rfl (And.intro rfl (And.intro rfl (And.intro rfl (And.intro rfl (And.intro rfl (trivial))))))))) ?_ ?_
   ·skip
    refine Sq (Rg ?_)
    refine rp 2 rfl ?_
    refine Wp (po_iaddr rfl rfl (by exact fc_slice_32_45_3) (by first | omega | (simp <;> omega)) (by first | omega | (simp <;> omega))) ?_
    refine Wp (po_faddr_sl rfl (by omega) (by exact fc_field_45_1_1)) ?_
    refine Wp (po_load_sl rfl (List.getElem?_eq_getElem (by first | omega | (simp <;> omega))) (by exact fc_flat_3) (by rfl)) ?_
    refine Wp (po_eq rfl rfl) ?_
    refine Sn (Aw ?_)
    refine Rc rfl ?_ ?_
    ·skip
     intro h4
     refine Sq (Rg ?_)
     refine rp 1 rfl ?_
     refine Wp (po_add' rfl rfl (by omega) (by omega)) ?_
     refine rp 1 rfl ?_
     refine Sn (Aw (Sq ?_))
     refine r_ord [] _ [(0, 1), (1, 1), (2, 0), (3, 0), (4, 0), (5, 1), (6, 1), (7, 1), (8, 0), (9, 1), (10, 0), (11, 1), (12, 1), (13, 1), (14, 0), (15, 0), (16, 0), (18, 1), (17, 2), (19, 1), (20, 1)] fc_mixed (by kernel_rfl) (fun _ h => h) ?_
     refine Of rfl (po_move rfl) ?_
     refine Of rfl (po_move rfl) ?_
     refine Or rfl (po_iaddr rfl rfl (by exact fc_slice_32_45_3) (by first | omega | (simp <;> omega)) (by first | omega | (simp <;> omega))) ?_
     refine Or rfl (po_faddr_sl rfl (by omega) (by exact fc_field_45_2_2)) ?_
     refine Or rfl (po_load_sl rfl (List.getElem?_eq_getElem (by first | omega | (simp <;> omega))) (by exact fc_flat_3) (by rfl)) ?_
     refine Of rfl (po_ne rfl rfl) ?_
     refine Of rfl (po_bf (po_move rfl) (decide_eq_false (by have := hT1 h4; omega))) ?_
     refine Of rfl (po_faddr rfl (by exact fc_field_24_0_0)) ?_
     refine Or rfl (po_load rfl (by exact fc_flat_3) (by rfl)) ?_
     refine Of rfl (po_faddr rfl (by exact fc_field_24_1_1)) ?_
     refine Or rfl (po_load rfl (by exact fc_flat_3) (by rfl)) ?_
     refine Of rfl (po_move rfl) ?_
     refine Of rfl (po_move rfl) ?_
     refine Of rfl (po_move rfl) ?_
     refine Or rfl (po_iaddr rfl rfl (by exact fc_slice_32_45_3) (by first | omega | (simp <;> omega)) (by first | omega | (simp <;> omega))) ?_
     refine Or rfl (po_faddr_sl rfl (by omega) (by exact fc_field_45_0_0)) ?_
     refine Or rfl (po_load_sl rfl (List.getElem?_eq_getElem (by first | omega | (simp <;> omega))) (by exact fc_flat_3) (by rfl)) ?_
     refine Of rfl (po_move rfl) ?_
     refine o_st rfl (st_call (co_fn rfl rfl) (ref_Global W H i (ys[(k : Int).toNat]'(by omega)).cell) (by infer_instance) rfl rfl rfl ?_)
     rintro v91 _ ⟨rfl, rfl⟩
     try dsimp only [ca, na, GridS.l, GridS.p, MeshS.l, MeshS.lF, MeshS.p, FinderS.l, FinderS.p, FinderS.lF, RouteS.l, RouteS.p, GridS.lT, RouteS.lT]
     refine ⟨fun _ => (by first | exact fun _ h => h | exact ent), ?_⟩
     refine Of rfl (po_ne rfl rfl) ?_
     refine Of rfl (po_pick_f rfl rfl) ?_
     refine o_nil ?_
     refine Aw ?_
     first | refine r_dec_f rfl (by have := hT1 h4; omega) ?_ | refine r_nd_f rfl (by have := hT1 h4; omega) ?_ | refine r_cond_f rfl (by have := hT1 h4; omega) ?_
     refine Sk ?_
     have e1 : ((ys.take k).countP own4 : Int) + 1 = ((ys.take (k + 1)).countP own4 : Nat) := by rw [take_cnt hkl, if_pos (show own4 ys[k] = true from decide_eq_true h4)]; omega
     rw [e1]
     exact at_join (()) (And.intro rfl (trivial)) (And.intro rfl (And.intro rfl (And.intro rfl (And.intro rfl (And.intro rfl (And.intro rfl (And.intro rfl (And.intro rfl (trivial))))))))) (trivial) ent
    ·skip
     intro h4
     obtain ⟨hn1, hn2⟩ := hT2 h4
     generalize hne : stepN W H (globalN W H i (ys[(k : Int).toNat]'(by omega)).cell) (ys[(k : Int).toNat]'(by omega)).side = n at hn1 hn2
     have hnl : 0 ≤ n ∧ n < C.length := ⟨hn1.2.1, by have := hn1.2.2; omega⟩
     have hgn : gAt C n = C[n.toNat]'(by omega) := gAt_get (by omega)
     have hgb := hm.bt _ (List.getElem_mem (show n.toNat < C.length by omega))
     have hat := atN_rng r hro.rng n
     refine Sq ?_
     refine r_ord [] _ [(0, 1), (1, 0), (2, 1), (3, 0), (4, 1), (5, 0), (6, 1), (7, 0), (8, 1), (9, 1), (10, 1), (11, 0), (12, 0), (13, 0), (15, 1), (16, 1), (17, 0), (18, 0), (19, 0), (14, 2), (20, 2), (21, 1)] fc_mixed (by kernel_rfl) (fun _ h => h) ?_
     refine Of rfl (po_faddr rfl (by exact fc_field_24_0_0)) ?_
     refine Or rfl (po_load rfl (by exact fc_flat_3) (by rfl)) ?_
     refine Of rfl (po_faddr rfl (by exact fc_field_24_1_1)) ?_
     refine Or rfl (po_load rfl (by exact fc_flat_3) (by rfl)) ?_
     refine Of rfl (po_faddr rfl (by exact fc_field_24_0_0)) ?_
     refine Or rfl (po_load rfl (by exact fc_flat_3) (by rfl)) ?_
     refine Of rfl (po_faddr rfl (by exact fc_field_24_1_1)) ?_
     refine Or rfl (po_load rfl (by exact fc_flat_3) (by rfl)) ?_
     refine Of rfl (po_move rfl) ?_
     refine Of rfl (po_move rfl) ?_
     refine Of rfl (po_move rfl) ?_
     refine Or rfl (po_iaddr rfl rfl (by exact fc_slice_32_45_3) (by first | omega | (simp <;> omega)) (by first | omega | (simp <;> omega))) ?_
     refine Or rfl (po_faddr_sl rfl (by omega) (by exact fc_field_45_0_0)) ?_
     refine Or rfl (po_load_sl rfl (List.getElem?_eq_getElem (by first | omega | (simp <;> omega))) (by exact fc_flat_3) (by rfl)) ?_
     refine Of rfl (po_move rfl) ?_
     refine Of rfl (po_move rfl) ?_
     refine Or rfl (po_iaddr rfl rfl (by exact fc_slice_32_45_3) (by first | omega | (simp <;> omega)) (by first | omega | (simp <;> omega))) ?_
     refine Or rfl (po_faddr_sl rfl (by omega) (by exact fc_field_45_1_1)) ?_
     refine Or rfl (po_load_sl rfl (List.getElem?_eq_getElem (by first | omega | (simp <;> omega))) (by exact fc_flat_3) (by rfl)) ?_
     refine o_st rfl (st_call (co_fn rfl rfl) (ref_Global W H i (ys[(k : Int).toNat]'(by omega)).cell) (by infer_instance) rfl rfl rfl ?_)
     rintro v109 _ ⟨rfl, rfl⟩
     try dsimp only [ca, na, GridS.l, GridS.p, MeshS.l, MeshS.lF, MeshS.p, FinderS.l, FinderS.p, FinderS.lF, RouteS.l, RouteS.p, GridS.lT, RouteS.lT]
     refine ⟨fun _ => (by first | exact fun _ h => h | exact ent), ?_⟩
     refine o_st rfl (st_call (co_fn rfl rfl) (ref_Step W H (globalN W H i (ys[(k : Int).toNat]'(by omega)).cell) (ys[(k : Int).toNat]'(by omega)).side) (by infer_instance) rfl rfl rfl ?_)
     rintro v115 _ ⟨rfl, rfl⟩
     try dsimp only [ca, na, GridS.l, GridS.p, MeshS.l, MeshS.lF, MeshS.p, FinderS.l, FinderS.p, FinderS.lF, RouteS.l, RouteS.p, GridS.lT, RouteS.lT]
     refine ⟨fun _ => (by first | exact fun _ h => h | exact ent), ?_⟩
     rw [hne]
     refine Of rfl (po_assign rfl) ?_
     refine o_nil ?_
     refine Aw (Sq ?_)
     refine r_ord [] _ [(0, 1), (1, 1), (2, 1), (3, 1), (4, 1), (6, 1), (7, 0), (8, 1), (9, 0), (10, 0), (11, 1), (13, 1), (14, 1), (15, 0), (16, 0), (17, 0), (5, 2), (12, 1), (18, 1), (19, 1)] fc_mixed (by kernel_rfl) (fun _ h => h) ?_
     refine Of rfl (po_move rfl) ?_
     refine Of rfl (po_lt rfl rfl) ?_
     refine Of rfl (po_bf (po_move rfl) (decide_eq_false (by omega))) ?_
     refine Of rfl (po_move rfl) ?_
     refine Of rfl (po_move rfl) ?_
     refine Of rfl (po_faddr rfl (by exact fc_field_24_2_2)) ?_
     refine Or rfl (po_load rfl (by exact fc_flat_22) (by rfl)) ?_
     refine Of rfl (po_move rfl) ?_
     refine Or rfl (po_iaddr rfl rfl (by exact fc_slice_22_5_1) (by first | omega | (simp <;> omega)) (by first | omega | (simp <;> omega))) ?_
     refine Or rfl (po_load_sl rfl (List.getElem?_eq_getElem (by first | omega | (simp <;> omega))) (by exact fc_flat_5) (by rfl)) ?_
     refine Of rfl (po_conv_w rfl (by exact fc_int_5_u8) (by exact fc_int_3_i64) (wrap_i64 _ (by omega) (by omega))) ?_
     refine Of rfl (po_move rfl) ?_
     refine Of rfl (po_move rfl) ?_
     refine Or rfl (po_iaddr rfl rfl (by exact fc_slice_32_45_3) (by first | omega | (simp <;> omega)) (by first | omega | (simp <;> omega))) ?_
     refine Or rfl (po_faddr_sl rfl (by omega) (by exact fc_field_45_2_2)) ?_
     refine Or rfl (po_load_sl rfl (List.getElem?_eq_getElem (by first | omega | (simp <;> omega))) (by exact fc_flat_3) (by rfl)) ?_
     refine o_st rfl (st_call (co_fn rfl rfl) (route_At r n hro.rng) (by infer_instance) rfl rfl rfl ?_)
     rintro v121 _ ⟨rfl, rfl⟩
     try dsimp only [ca, na, GridS.l, GridS.p, MeshS.l, MeshS.lF, MeshS.p, FinderS.l, FinderS.p, FinderS.lF, RouteS.l, RouteS.p, GridS.lT, RouteS.lT]
     refine ⟨fun _ => (by first | exact fun _ h => h | exact ent), ?_⟩
     refine Of rfl (po_add' rfl rfl (by omega) (by omega)) ?_
     refine Of rfl (po_ne rfl rfl) ?_
     refine Of rfl (po_pick_f rfl rfl) ?_
     refine o_nil ?_
     refine Aw ?_
     first | refine r_dec_f rfl (by omega) ?_ | refine r_nd_f rfl (by omega) ?_ | refine r_cond_f rfl (by omega) ?_
     refine Sk ?_
     have e1 : ((ys.take k).countP own4 : Int) = ((ys.take (k + 1)).countP own4 : Nat) := by rw [take_cnt hkl, if_neg (by unfold own4; exact fun h => h4 (of_decide_eq_true h))]; omega
     rw [e1]
     exact at_join (()) (And.intro rfl (trivial)) (And.intro rfl (And.intro rfl (And.intro rfl (And.intro rfl (And.intro rfl (And.intro rfl (And.intro rfl (And.intro rfl (trivial))))))))) (trivial) ent
   ·skip
    rintro _ -
    try dsimp only [ca, na, GridS.l, GridS.p, MeshS.l, MeshS.lF, MeshS.p, FinderS.l, FinderS.p, FinderS.lF, RouteS.l, RouteS.p, GridS.lT, RouteS.lT]
    refine Sq (Rg ?_)
    refine rp 1 rfl ?_
    refine Sn (Aw (Bk ?_))
    refine r_loop (S := Nat) (fun j => [(22, .int .i64 j)]) [(11, _), (12, _), (14, _), (15, _), (16, _), (17, _), (18, _), (19, _), (20, _)] (fun j => Sl eS v59 ys :: Blk b16 41 [.int .i64 (tileN f.m.g i).w, .int .i64 (tileN f.m.g i).h, tc] :: Sl eB tc (tileN f.m.g i).c :: Blk b11 24 [.int .i64 W, .int .i64 H, mv] :: Sl eB mv C :: K :: r.lT [F]) (fun j => j ≤ k) (fun j => k - j) (0) (And.intro rfl (And.intro rfl (And.intro rfl (And.intro rfl (And.intro rfl (And.intro rfl (And.intro rfl (And.intro rfl (And.intro rfl (trivial)))))))))) (And.intro rfl (trivial)) (by omega) ent ?_
    rintro j hj
    try dsimp only [ca, na, GridS.l, GridS.p, MeshS.l, MeshS.lF, MeshS.p, FinderS.l, FinderS.p, FinderS.lF, RouteS.l, RouteS.p, GridS.lT, RouteS.lT]
    refine Sq (Sq (Rg ?_))
    refine rp 2 rfl ?_
    refine Wp (po_lt rfl rfl) ?_
    refine Sn (Aw ?_)
    refine Rc rfl ?_ ?_
    ·skip
     intro hjk
     have hjp := List.pairwise_iff_getElem.1 hpw (j : Int).toNat (k : Int).toNat (by omega) (by omega) (by omega)
     have hjs := ord_key (List.pairwise_iff_getElem.1 hs (j : Int).toNat (k : Int).toNat (by omega) (by omega) (by omega))
     refine Sk (Aw (Sq (Bk (Sq ?_))))
     refine r_ord [] _ [(0, 1), (1, 1), (2, 0), (3, 0), (4, 0), (5, 1), (6, 1), (7, 0), (8, 0), (9, 0), (10, 1), (11, 1), (12, 1), (13, 1), (14, 0), (15, 0), (16, 0), (17, 1), (18, 1), (19, 0), (20, 0), (21, 0), (22, 1), (23, 1), (24, 1), (25, 1), (26, 1), (27, 0), (28, 0), (29, 0), (30, 1), (31, 1), (32, 0), (33, 0), (34, 0), (35, 1), (36, 1)] fc_mixed (by kernel_rfl) (fun _ h => h) ?_
     refine Of rfl (po_move rfl) ?_
     refine Of rfl (po_move rfl) ?_
     refine Or rfl (po_iaddr rfl rfl (by exact fc_slice_32_45_3) (by first | omega | (simp <;> omega)) (by first | omega | (simp <;> omega))) ?_
     refine Or rfl (po_faddr_sl rfl (by omega) (by exact fc_field_45_0_0)) ?_
     refine Or rfl (po_load_sl rfl (List.getElem?_eq_getElem (by first | omega | (simp <;> omega))) (by exact fc_flat_3) (by rfl)) ?_
     refine Of rfl (po_move rfl) ?_
     refine Of rfl (po_move rfl) ?_
     refine Or rfl (po_iaddr rfl rfl (by exact fc_slice_32_45_3) (by first | omega | (simp <;> omega)) (by first | omega | (simp <;> omega))) ?_
     refine Or rfl (po_faddr_sl rfl (by omega) (by exact fc_field_45_0_0)) ?_
     refine Or rfl (po_load_sl rfl (List.getElem?_eq_getElem (by first | omega | (simp <;> omega))) (by exact fc_flat_3) (by rfl)) ?_
     refine Of rfl (po_eq rfl rfl) ?_
     by_cases e1 : (ys[(j : Int).toNat]'(by omega)).cell = (ys[(k : Int).toNat]'(by omega)).cell
     ·skip
      refine o_fr rfl (po_bt (po_move rfl) (decide_eq_true e1)) rfl rfl rfl ?_
      refine Of rfl (po_move rfl) ?_
      refine Of rfl (po_move rfl) ?_
      refine Or rfl (po_iaddr rfl rfl (by exact fc_slice_32_45_3) (by first | omega | (simp <;> omega)) (by first | omega | (simp <;> omega))) ?_
      refine Or rfl (po_faddr_sl rfl (by omega) (by exact fc_field_45_1_1)) ?_
      refine Or rfl (po_load_sl rfl (List.getElem?_eq_getElem (by first | omega | (simp <;> omega))) (by exact fc_flat_3) (by rfl)) ?_
      refine Of rfl (po_move rfl) ?_
      refine Of rfl (po_move rfl) ?_
      refine Or rfl (po_iaddr rfl rfl (by exact fc_slice_32_45_3) (by first | omega | (simp <;> omega)) (by first | omega | (simp <;> omega))) ?_
      refine Or rfl (po_faddr_sl rfl (by omega) (by exact fc_field_45_1_1)) ?_
      refine Or rfl (po_load_sl rfl (List.getElem?_eq_getElem (by first | omega | (simp <;> omega))) (by exact fc_flat_3) (by rfl)) ?_
      refine Of rfl (po_eq rfl rfl) ?_
      refine Of rfl (po_pick_t rfl rfl) ?_
      refine Of rfl (po_bf (po_move rfl) (decide_eq_false (fun e2 => hjp ⟨e1, e2⟩))) ?_
      refine Of rfl (po_move rfl) ?_
      refine Of rfl (po_move rfl) ?_
      refine Or rfl (po_iaddr rfl rfl (by exact fc_slice_32_45_3) (by first | omega | (simp <;> omega)) (by first | omega | (simp <;> omega))) ?_
      refine Or rfl (po_faddr_sl rfl (by omega) (by exact fc_field_45_2_2)) ?_
      refine Or rfl (po_load_sl rfl (List.getElem?_eq_getElem (by first | omega | (simp <;> omega))) (by exact fc_flat_3) (by rfl)) ?_
      refine Of rfl (po_move rfl) ?_
      refine Of rfl (po_move rfl) ?_
      refine Or rfl (po_iaddr rfl rfl (by exact fc_slice_32_45_3) (by first | omega | (simp <;> omega)) (by first | omega | (simp <;> omega))) ?_
      refine Or rfl (po_faddr_sl rfl (by omega) (by exact fc_field_45_2_2)) ?_
      refine Or rfl (po_load_sl rfl (List.getElem?_eq_getElem (by first | omega | (simp <;> omega))) (by exact fc_flat_3) (by rfl)) ?_
      refine Of rfl (po_gt rfl rfl) ?_
      refine Of rfl (po_pick_f rfl rfl) ?_
      refine o_nil ?_
      refine Aw ?_
      first | refine r_dec_f rfl (by omega) ?_ | refine r_nd_f rfl (by omega) ?_ | refine r_cond_f rfl (by omega) ?_
      refine Sk (Bn (Aw (Rg ?_)))
      refine rp 1 rfl ?_
      refine Wp (po_add' rfl rfl (by omega) (by omega)) ?_
      refine rp 1 rfl ?_
      refine Sn ?_
      exact at_again (j + 1) (And.intro rfl (trivial)) (And.intro rfl (And.intro rfl (And.intro rfl (And.intro rfl (And.intro rfl (And.intro rfl (And.intro rfl (And.intro rfl (And.intro rfl (trivial)))))))))) (by omega) (by omega) ent
     ·skip
      refine o_fr rfl (po_bf (po_move rfl) (decide_eq_false e1)) rfl rfl rfl ?_
      refine o_no rfl rfl rfl rfl ?_
      refine o_no rfl rfl rfl rfl ?_
      refine o_nor rfl (by first | exact fun _ h => h | exact ent) rfl rfl rfl ?_
      refine o_nor rfl (by first | exact fun _ h => h | exact ent) rfl rfl rfl ?_
      refine o_nor rfl (by first | exact fun _ h => h | exact ent) rfl rfl rfl ?_
      refine o_no rfl rfl rfl rfl ?_
      refine o_no rfl rfl rfl rfl ?_
      refine o_nor rfl (by first | exact fun _ h => h | exact ent) rfl rfl rfl ?_
      refine o_nor rfl (by first | exact fun _ h => h | exact ent) rfl rfl rfl ?_
      refine o_nor rfl (by first | exact fun _ h => h | exact ent) rfl rfl rfl ?_
      refine o_no rfl rfl rfl rfl ?_
      refine Of rfl (po_pick_f rfl rfl) ?_
      refine Of rfl (po_move rfl) ?_
      refine Of rfl (po_move rfl) ?_
      refine Of rfl (po_move rfl) ?_
      refine Or rfl (po_iaddr rfl rfl (by exact fc_slice_32_45_3) (by first | omega | (simp <;> omega)) (by first | omega | (simp <;> omega))) ?_
      refine Or rfl (po_faddr_sl rfl (by omega) (by exact fc_field_45_2_2)) ?_
      refine Or rfl (po_load_sl rfl (List.getElem?_eq_getElem (by first | omega | (simp <;> omega))) (by exact fc_flat_3) (by rfl)) ?_
      refine Of rfl (po_move rfl) ?_
      refine Of rfl (po_move rfl) ?_
      refine Or rfl (po_iaddr rfl rfl (by exact fc_slice_32_45_3) (by first | omega | (simp <;> omega)) (by first | omega | (simp <;> omega))) ?_
      refine Or rfl (po_faddr_sl rfl (by omega) (by exact fc_field_45_2_2)) ?_
      refine Or rfl (po_load_sl rfl (List.getElem?_eq_getElem (by first | omega | (simp <;> omega))) (by exact fc_flat_3) (by rfl)) ?_
      refine Of rfl (po_gt rfl rfl) ?_
      refine Of rfl (po_pick_f rfl rfl) ?_
      refine o_nil ?_
      refine Aw ?_
      first | refine r_dec_f rfl (by omega) ?_ | refine r_nd_f rfl (by omega) ?_ | refine r_cond_f rfl (by omega) ?_
      refine Sk (Bn (Aw (Rg ?_)))
      refine rp 1 rfl ?_
      refine Wp (po_add' rfl rfl (by omega) (by omega)) ?_
      refine rp 1 rfl ?_
      refine Sn ?_
      exact at_again (j + 1) (And.intro rfl (trivial)) (And.intro rfl (And.intro rfl (And.intro rfl (And.intro rfl (And.intro rfl (And.intro rfl (And.intro rfl (And.intro rfl (And.intro rfl (trivial)))))))))) (by omega) (by omega) ent
    ·skip
     intro hjk
     refine Ex' (Ax (Ax (Bh (Bn (Aw (Rg ?_))))))
     refine rp 1 rfl ?_
     refine Wp (po_add' rfl rfl (by omega) (by omega)) ?_
     refine rp 1 rfl ?_
     refine Sn ?_
     exact at_again (k + 1) (And.intro rfl (And.intro rfl (trivial))) (And.intro rfl (And.intro rfl (And.intro rfl (And.intro rfl (And.intro rfl (And.intro rfl (And.intro rfl (trivial)))))))) (by omega) (by omega) ent
  ·skip
   intro hlt
   rw [List.take_of_length_le (by omega), hcnt]
   have hgt : gAt C t = C[t.toNat]'(by have := htc.2; omega) := gAt_get (by have := htc.2; omega)
   have hct : costN C t = gAt C t := by rw [costN, if_pos ⟨htc.2.1, by have := htc.2.2; omega⟩]
   have htl2 : 0 ≤ t ∧ t < C.length := ⟨htc.2.1, by have := htc.2.2; omega⟩
   have hmt := tile_may ok his'
   have htlen : (tileN f.m.g i).c.length ≤ 2^30 := by have := hmt.1; have := hmt.2.1; have := hmt.2.2.1; unfold Sized at *; have := mul_1k (a := (tileN f.m.g i).w) (b := (tileN f.m.g i).h) (by omega) (by omega) (by omega) (by omega); omega
   by_cases hown : sectorN W H t = i ∧ costN C t ≠ 255
   ·skip
    rw [if_pos hown]
    refine Ex' (Ax (Ax (Bh (Aw (Sq (Rg ?_))))))
    refine Wp (po_faddr rfl (by exact fc_field_24_0_0)) ?_
    refine Wp (po_load rfl (by exact fc_flat_3) (by rfl)) ?_
    refine Wp (po_faddr rfl (by exact fc_field_24_1_1)) ?_
    refine Wp (po_load rfl (by exact fc_flat_3) (by rfl)) ?_
    refine rp 1 rfl ?_
    refine Wc (co_fn rfl rfl) (ref_Sector W H t) ?_
    rintro v183 _ ⟨rfl, rfl⟩
    try dsimp only [ca, na, GridS.l, GridS.p, MeshS.l, MeshS.lF, MeshS.p, FinderS.l, FinderS.p, FinderS.lF, RouteS.l, RouteS.p, GridS.lT, RouteS.lT]
    refine rp 1 rfl ?_
    refine Wp (po_eq rfl rfl) ?_
    refine Wp (po_bt (po_move rfl) (decide_eq_true (hown.1))) ?_
    refine Wp (po_faddr rfl (by exact fc_field_24_2_2)) ?_
    refine Wp (po_load rfl (by exact fc_flat_22) (by rfl)) ?_
    refine rp 1 rfl ?_
    refine Wp (po_iaddr rfl rfl (by exact fc_slice_22_5_1) (by first | omega | (simp <;> omega)) (by first | omega | (simp <;> omega))) ?_
    refine Wp (po_load_sl rfl (List.getElem?_eq_getElem (by first | omega | (simp <;> omega))) (by exact fc_flat_5) (by rfl)) ?_
    refine Wp (po_ne rfl rfl) ?_
    refine rp 2 rfl ?_
    refine Sn (Aw (Sq (Rg ?_)))
    refine Wc (co_fn rfl rfl) (law16_told) ?_
    rintro v194 _ ⟨rfl, rfl⟩
    try dsimp only [ca, na, GridS.l, GridS.p, MeshS.l, MeshS.lF, MeshS.p, FinderS.l, FinderS.p, FinderS.lF, RouteS.l, RouteS.p, GridS.lT, RouteS.lT]
    refine Wp (po_bt (po_move rfl) (rfl)) ?_
    refine rp 2 rfl ?_
    refine Wp (po_bt (po_move rfl) (rfl)) ?_
    refine Wp (po_loada rfl (by exact fc_agg_41_3) (by rfl)) ?_
    refine rp 1 rfl ?_
    refine Wc (co_fn rfl rfl) (ref_MaySeeds tc v59 (tileN f.m.g i) ys hmt htlen (by omega) hmy) ?_
    rintro v201 _ ⟨rfl, rfl⟩
    try dsimp only [ca, na, GridS.l, GridS.p, MeshS.l, MeshS.lF, MeshS.p, FinderS.l, FinderS.p, FinderS.lF, RouteS.l, RouteS.p, GridS.lT, RouteS.lT]
    refine rp 1 rfl ?_
    refine Wp (po_bt (po_move rfl) (rfl)) ?_
    refine rp 1 rfl ?_
    refine Wp (po_le rfl rfl) ?_
    refine rp 1 rfl ?_
    refine Wp (po_bt (po_move rfl) (decide_eq_true (by decide))) ?_
    refine rp 1 rfl ?_
    refine Wp (po_eq rfl rfl) ?_
    refine rp 1 rfl ?_
    refine Wp (po_beq rfl rfl (by exact fc_bool_4)) ?_
    refine rp 2 rfl ?_
    refine Sn (Aw (Rt ?_))
    have h255 : C[t.toNat]'(by omega) ≠ 255 := by rw [← hgt, ← hct]; exact hown.2
    refine at_ret1 rfl (rv_tmp rfl) ⟨_, ⟨by simp [h255], rfl⟩, ?_⟩
    try dsimp only [ca, na, GridS.l, GridS.p, MeshS.l, MeshS.lF, MeshS.p, FinderS.l, FinderS.p, FinderS.lF, RouteS.l, RouteS.p, GridS.lT, RouteS.lT]
    exact ent
   ·skip
    rw [if_neg hown]
    refine Ex' (Ax (Ax (Bh (Aw (Sq (Rg ?_))))))
    refine Wp (po_faddr rfl (by exact fc_field_24_0_0)) ?_
    refine Wp (po_load rfl (by exact fc_flat_3) (by rfl)) ?_
    refine Wp (po_faddr rfl (by exact fc_field_24_1_1)) ?_
    refine Wp (po_load rfl (by exact fc_flat_3) (by rfl)) ?_
    refine rp 1 rfl ?_
    refine Wc (co_fn rfl rfl) (ref_Sector W H t) ?_
    rintro v183 _ ⟨rfl, rfl⟩
    try dsimp only [ca, na, GridS.l, GridS.p, MeshS.l, MeshS.lF, MeshS.p, FinderS.l, FinderS.p, FinderS.lF, RouteS.l, RouteS.p, GridS.lT, RouteS.lT]
    refine rp 1 rfl ?_
    refine Wp (po_eq rfl rfl) ?_
    by_cases hse : sectorN W H t = i
    ·skip
     refine ws (st_po (po_bt (po_move rfl) (decide_eq_true hse)) rfl rfl rfl ?_)
     refine Wp (po_faddr rfl (by exact fc_field_24_2_2)) ?_
     refine Wp (po_load rfl (by exact fc_flat_22) (by rfl)) ?_
     refine rp 1 rfl ?_
     refine Wp (po_iaddr rfl rfl (by exact fc_slice_22_5_1) (by first | omega | (simp <;> omega)) (by first | omega | (simp <;> omega))) ?_
     refine Wp (po_load_sl rfl (List.getElem?_eq_getElem (by first | omega | (simp <;> omega))) (by exact fc_flat_5) (by rfl)) ?_
     refine Wp (po_ne rfl rfl) ?_
     refine rp 2 rfl ?_
     refine Sn (Aw (Sq (Rg ?_)))
     refine Wc (co_fn rfl rfl) (law16_told) ?_
     rintro v194 _ ⟨rfl, rfl⟩
     try dsimp only [ca, na, GridS.l, GridS.p, MeshS.l, MeshS.lF, MeshS.p, FinderS.l, FinderS.p, FinderS.lF, RouteS.l, RouteS.p, GridS.lT, RouteS.lT]
     refine Wp (po_bt (po_move rfl) (rfl)) ?_
     refine rp 2 rfl ?_
     refine Wp (po_bt (po_move rfl) (rfl)) ?_
     refine Wp (po_loada rfl (by exact fc_agg_41_3) (by rfl)) ?_
     refine rp 1 rfl ?_
     refine Wc (co_fn rfl rfl) (ref_MaySeeds tc v59 (tileN f.m.g i) ys hmt htlen (by omega) hmy) ?_
     rintro v201 _ ⟨rfl, rfl⟩
     try dsimp only [ca, na, GridS.l, GridS.p, MeshS.l, MeshS.lF, MeshS.p, FinderS.l, FinderS.p, FinderS.lF, RouteS.l, RouteS.p, GridS.lT, RouteS.lT]
     refine rp 1 rfl ?_
     refine Wp (po_bt (po_move rfl) (rfl)) ?_
     refine rp 1 rfl ?_
     refine Wp (po_le rfl rfl) ?_
     refine rp 1 rfl ?_
     refine Wp (po_bt (po_move rfl) (decide_eq_true (by decide))) ?_
     refine rp 1 rfl ?_
     refine Wp (po_eq rfl rfl) ?_
     refine rp 1 rfl ?_
     refine Wp (po_beq rfl rfl (by exact fc_bool_4)) ?_
     refine rp 2 rfl ?_
     refine Sn (Aw (Rt ?_))
     have h255 : C[t.toNat]'(by omega) = 255 := by rw [← hgt, ← hct]; exact Classical.not_not.1 fun h => hown ⟨hse, h⟩
     refine at_ret1 rfl (rv_tmp rfl) ⟨_, ⟨by simp [h255], rfl⟩, ?_⟩
     try dsimp only [ca, na, GridS.l, GridS.p, MeshS.l, MeshS.lF, MeshS.p, FinderS.l, FinderS.p, FinderS.lF, RouteS.l, RouteS.p, GridS.lT, RouteS.lT]
     exact ent
    ·skip
     refine ws (st_po (po_bf (po_move rfl) (decide_eq_false hse)) rfl rfl rfl ?_)
     refine rp 8 rfl ?_
     refine Sn (Aw (Sq (Rg ?_)))
     refine Wc (co_fn rfl rfl) (law16_told) ?_
     rintro v194 _ ⟨rfl, rfl⟩
     try dsimp only [ca, na, GridS.l, GridS.p, MeshS.l, MeshS.lF, MeshS.p, FinderS.l, FinderS.p, FinderS.lF, RouteS.l, RouteS.p, GridS.lT, RouteS.lT]
     refine Wp (po_bt (po_move rfl) (rfl)) ?_
     refine rp 2 rfl ?_
     refine Wp (po_bt (po_move rfl) (rfl)) ?_
     refine Wp (po_loada rfl (by exact fc_agg_41_3) (by rfl)) ?_
     refine rp 1 rfl ?_
     refine Wc (co_fn rfl rfl) (ref_MaySeeds tc v59 (tileN f.m.g i) ys hmt htlen (by omega) hmy) ?_
     rintro v201 _ ⟨rfl, rfl⟩
     try dsimp only [ca, na, GridS.l, GridS.p, MeshS.l, MeshS.lF, MeshS.p, FinderS.l, FinderS.p, FinderS.lF, RouteS.l, RouteS.p, GridS.lT, RouteS.lT]
     refine rp 1 rfl ?_
     refine Wp (po_bt (po_move rfl) (rfl)) ?_
     refine rp 1 rfl ?_
     refine Wp (po_le rfl rfl) ?_
     refine rp 1 rfl ?_
     refine Wp (po_bt (po_move rfl) (decide_eq_true (by decide))) ?_
     refine rp 1 rfl ?_
     refine Wp (po_eq rfl rfl) ?_
     refine rp 1 rfl ?_
     refine Wp (po_beq rfl rfl (by exact fc_bool_4)) ?_
     refine rp 2 rfl ?_
     refine Sn (Aw (Rt ?_))
     refine at_ret1 rfl (rv_tmp rfl) ⟨_, ⟨by simp, rfl⟩, ?_⟩
     try dsimp only [ca, na, GridS.l, GridS.p, MeshS.l, MeshS.lF, MeshS.p, FinderS.l, FinderS.p, FinderS.lF, RouteS.l, RouteS.p, GridS.lT, RouteS.lT]
     exact ent
end Hd
end
section
namespace Hd
set_option maxRecDepth 100000
open Go

def refS (w h : Int) (C : List Int) (D : Int → Int) (c : Int) (k : Nat) : List Seed := (List.range k).flatMap fun (j : Nat) => if Opn C (overN w h c j) ∧ D (overN w h c j) < 1099511627776 then [⟨localN w h c, j, gAt C (overN w h c j) + D (overN w h c j)⟩] else []
def refO (w h : Int) (C : List Int) (D : Int → Int) (i : Int) (m : Nat) : List Seed := ((nodesN w h C i).take m).flatMap fun c => refS w h C D c 4
theorem refS_succ (w h : Int) (C : List Int) (D : Int → Int) (c : Int) (k : Nat) : refS w h C D c (k + 1) = refS w h C D c k ++ if Opn C (overN w h c k) ∧ D (overN w h c k) < 1099511627776 then [⟨localN w h c, k, gAt C (overN w h c k) + D (overN w h c k)⟩] else [] := by
  unfold refS; rw [List.range_succ, List.flatMap_append]; simp
theorem refS_len (w h : Int) (C : List Int) (D : Int → Int) (c : Int) : ∀ k : Nat, (refS w h C D c k).length ≤ k
  | 0 => by simp [refS]
  | k + 1 => by
    rw [refS_succ, List.length_append]
    have := refS_len w h C D c k
    split <;> simp <;> omega
theorem refO_len (w h : Int) (C : List Int) (D : Int → Int) (i : Int) (m : Nat) : (refO w h C D i m).length ≤ 1024 := by
  have h1 := flat_le (fun c => refS w h C D c 4) 4 (fun c => refS_len w h C D c 4) ((nodesN w h C i).take m)
  have h2 := nodes_len w h C i
  rw [List.length_take] at h1
  unfold refO; omega
def refG (w h : Int) (C : List Int) (D : Int → Int) (t i : Int) : List Seed := refO w h C D i (nodesN w h C i).length ++ if sectorN w h t = i ∧ Opn C t then [⟨localN w h t, 4, 0⟩] else []
/-- the document's seeds are the program's -/
theorem mem_refG {g : GridS} (ok : GridOk g) {r : RouteS} (hr : RouteOk g r) {d : List Int} (hd : ∀ c : Int, 0 ≤ c → c < g.c.length → gAt d c = flD g r.goal c) {i : Int} (hi : IsS g.w g.h i) (ht : IsC g.w g.h r.goal) (s : Seed) :
    s ∈ refG g.w g.h g.c (gAt d) r.goal i ↔ s ∈ seedsG g.w g.h g.c (atN r) r.goal i := by
  have hI : INF = 1099511627776 := rfl
  unfold refG seedsG
  rw [List.mem_append, List.mem_append]
  refine or_congr ?_ ?_
  · rw [mem_seedsO ok hi]
    unfold refO refS
    rw [List.take_length, List.mem_flatMap]
    constructor
    · rintro ⟨c, hc, hs⟩
      obtain ⟨⟨hco, _⟩, hci⟩ := (mem_nodes ok hi).1 hc
      rw [List.mem_flatMap] at hs
      obtain ⟨j, hj, hs⟩ := hs
      rw [List.mem_range] at hj
      split at hs
      · rename_i h1
        rw [List.mem_singleton] at hs
        have h0 : 0 ≤ overN g.w g.h c j := h1.1.1
        have h2 := over_ge.1 h0
        have h3 := over_eq h0
        rw [h3] at h1 hs
        have hop : OpC g.w g.h g.c (stepN g.w g.h c j) := ⟨h1.1, opn_isC ok h1.1⟩
        have hnd : Nd g.w g.h g.c (stepN g.w g.h c j) := by
          obtain ⟨s', hs', e'⟩ := adj_symm h2.1 ⟨(j : Int), ⟨by omega, by omega⟩, rfl⟩
          exact ⟨hop, s', hs', by rw [e']; exact hco.1.1, by rw [e']; exact fun x => h2.2 x.symm⟩
        have hat := hr.at ok (stepN g.w g.h c j)
        rw [if_pos hnd, ← hd _ h1.1.1 h1.1.2.1] at hat
        exact ⟨c, j, hco, hci, ⟨by omega, by omega⟩, hop, by rw [← hci]; exact h2.2, by rw [hat]; omega, by rw [hat]; exact hs⟩
      · cases hs
    · rintro ⟨c, k, hco, hci, hk, hop, hne, hA, rfl⟩
      have hst := hop.1.1
      have hnc : Nd g.w g.h g.c c := ⟨hco, k, hk, hst, by rw [hci]; exact hne⟩
      refine ⟨c, (mem_nodes ok hi).2 ⟨hnc, hci⟩, ?_⟩
      rw [List.mem_flatMap]
      refine ⟨k.toNat, List.mem_range.2 (by omega), ?_⟩
      rw [Int.toNat_of_nonneg hk.1]
      have h0 : 0 ≤ overN g.w g.h c k := over_ge.2 ⟨hst, by rw [hci]; exact hne⟩
      have h3 := over_eq h0
      have hnd : Nd g.w g.h g.c (stepN g.w g.h c k) := by
        obtain ⟨s', hs', e'⟩ := adj_symm hst ⟨k, hk, rfl⟩
        exact ⟨hop, s', hs', by rw [e']; exact hco.1.1, by rw [e', hci]; exact fun x => hne x.symm⟩
      have hat := hr.at ok (stepN g.w g.h c k)
      rw [if_pos hnd, ← hd _ hop.1.1 hop.1.2.1] at hat
      rw [hat] at hA ⊢
      have hrg := (fl_is ok r.goal).rng (stepN g.w g.h c k)
      rw [← hd _ hop.1.1 hop.1.2.1] at hrg
      rw [h3, if_pos ⟨hop.1, by omega⟩]
      exact List.mem_singleton.2 rfl
  · have e : (sectorN g.w g.h r.goal = i ∧ Opn g.c r.goal) ↔ (sectorN g.w g.h r.goal = i ∧ costN g.c r.goal ≠ 255) := by
      refine and_congr_right fun _ => ?_
      rw [cost_opn ok ht]
      have := ok.len
      exact ⟨fun h => h.2.2, fun h => ⟨ht.2.1, by have := ht.2.2; omega, h⟩⟩
    by_cases h : sectorN g.w g.h r.goal = i ∧ Opn g.c r.goal
    · rw [if_pos h, if_pos (e.1 h)]
    · rw [if_neg h, if_neg (fun h2 => h (e.2 h2))]
theorem ref_Seeds (q : GridS) (ok : GridOk q) (cv dv : Value) (t i : Int) (d : List Int) (hdl : d.length = q.c.length) (hdr : ∀ x ∈ d, 0 ≤ x ∧ x ≤ 1099511627776) :
    Spec PP 12 #[mapV q.w q.h cv, .int .i64 t, dv, .int .i64 i] [Sl eB cv q.c, Sl eI dv d] (fun v M => ∃ ys, M = [Sl eB cv q.c, Sl eI dv d, Sl eS v ys] ∧ ys.Pairwise ltS ∧ ∀ s, s ∈ ys ↔ s ∈ refG q.w q.h q.c (gAt d) t i) := by
  have hnl := nodes_len q.w q.h q.c i
  refine spec_of (Go.Proofs.Tryz.func12) rfl rfl rfl (by exact fc_enters_12) ?_
  intro g F
  try dsimp only [ca, na, GridS.l, GridS.p, MeshS.l, MeshS.lF, MeshS.p, FinderS.l, FinderS.p, FinderS.lF, RouteS.l, RouteS.p, GridS.lT, RouteS.lT]
  refine Sq (Rg ?_)
  refine Wx (xo_box rfl rfl) ?_
  rintro _ _ ⟨b4, rfl, rfl⟩
  refine rp 1 rfl ?_
  refine Sn (Aw (Sq (Rg ?_)))
  refine rp 1 rfl ?_
  refine Sn (Aw (Sq (Rg ?_)))
  refine Wp (po_loada rfl (by exact fc_agg_24_3) (by rfl)) ?_
  refine rp 1 rfl ?_
  refine Wc (co_fn rfl rfl) (ref_Nodes q ok cv i) ?_
  rintro v16 _ rfl
  try dsimp only [ca, na, GridS.l, GridS.p, MeshS.l, MeshS.lF, MeshS.p, FinderS.l, FinderS.p, FinderS.lF, RouteS.l, RouteS.p, GridS.lT, RouteS.lT]
  refine rp 1 rfl ?_
  refine Sn (Aw (Sq (Sq (Rg ?_))))
  refine rp 1 rfl ?_
  refine Sn (Aw (Bk ?_))
  refine r_loop (S := Nat × Value × List Seed) (fun ⟨m, ov, xs⟩ => [(9, ov), (11, .int .i64 m)]) [(1, _), (2, _), (3, _), (4, _), (10, _)] (fun ⟨m, ov, xs⟩ => [Blk b4 24 [.int .i64 q.w, .int .i64 q.h, cv], Sl eI v16 (nodesN q.w q.h q.c i), Sl eS ov xs, Sl eB cv q.c, Sl eI dv d, F]) (fun ⟨m, ov, xs⟩ => m ≤ (nodesN q.w q.h q.c i).length ∧ xs = refO q.w q.h q.c (gAt d) i m) (fun ⟨m, ov, xs⟩ => (nodesN q.w q.h q.c i).length - m) ((0, .slice none 0 0, [])) (And.intro rfl (And.intro rfl (And.intro rfl (And.intro rfl (And.intro rfl (trivial)))))) (And.intro rfl (And.intro rfl (trivial))) (⟨by omega, rfl⟩) ent ?_
  rintro ⟨m, ov, xs⟩ ⟨hm, hxs⟩
  try dsimp only [ca, na, GridS.l, GridS.p, MeshS.l, MeshS.lF, MeshS.p, FinderS.l, FinderS.p, FinderS.lF, RouteS.l, RouteS.p, GridS.lT, RouteS.lT]
  have hxl : xs.length ≤ 1024 := by rw [hxs]; exact refO_len ..
  refine Sq (Sq (Rg ?_))
  refine rp 2 rfl ?_
  refine Wp (po_len rfl (by exact fc_slice_35_3_1)) ?_
  refine Wp (po_lt rfl rfl) ?_
  refine Sn (Aw ?_)
  refine Rc rfl ?_ ?_
  ·skip
   intro hlt
   have hml : m < (nodesN q.w q.h q.c i).length := by omega
   obtain ⟨c, hce⟩ : ∃ c, (nodesN q.w q.h q.c i)[(m : Int).toNat]'(by omega) = c := ⟨_, rfl⟩
   have hce' : (nodesN q.w q.h q.c i)[m] = c := hce
   refine Sk (Aw (Sq (Bk (Sq (Rg ?_)))))
   refine rp 1 rfl ?_
   refine Sn (Aw (Bk ?_))
   refine r_loop (S := Nat × Value × List Seed) (fun ⟨k, ov, zs⟩ => [(9, ov), (12, .int .i64 k)]) [(1, _), (2, _), (3, _), (4, _), (10, _), (11, _)] (fun ⟨k, ov, zs⟩ => [Blk b4 24 [.int .i64 q.w, .int .i64 q.h, cv], Sl eI v16 (nodesN q.w q.h q.c i), Sl eS ov zs, Sl eB cv q.c, Sl eI dv d, F]) (fun ⟨k, ov, zs⟩ => k ≤ 4 ∧ zs = xs ++ refS q.w q.h q.c (gAt d) c k) (fun ⟨k, ov, zs⟩ => 4 - k) ((0, ov, xs)) (And.intro rfl (And.intro rfl (And.intro rfl (And.intro rfl (And.intro rfl (And.intro rfl (trivial))))))) (And.intro rfl (And.intro rfl (trivial))) (⟨by omega, by simp [refS]⟩) ent ?_
   rintro ⟨k, ov, zs⟩ ⟨hk, hzs⟩
   try dsimp only [ca, na, GridS.l, GridS.p, MeshS.l, MeshS.lF, MeshS.p, FinderS.l, FinderS.p, FinderS.lF, RouteS.l, RouteS.p, GridS.lT, RouteS.lT]
   have hzl : zs.length ≤ 1028 := by rw [hzs, List.length_append]; have := refS_len q.w q.h q.c (gAt d) c k; omega
   refine Sq (Sq (Rg ?_))
   refine rp 1 rfl ?_
   refine Wp (po_le rfl rfl) ?_
   refine Sn (Aw ?_)
   refine Rc rfl ?_ ?_
   ·skip
    intro hk3
    generalize hn : overN q.w q.h c k = n
    refine Sk (Aw (Sq (Bk (Sq ?_))))
    refine r_ord [] _ [(0, 1), (1, 0), (2, 1), (3, 0), (4, 1), (5, 1), (6, 0), (7, 0), (8, 1), (9, 2), (10, 1)] fc_mixed (by kernel_rfl) (fun _ h => h) ?_
    refine Of rfl (po_faddr rfl (by exact fc_field_24_0_0)) ?_
    refine Or rfl (po_load rfl (by exact fc_flat_3) (by rfl)) ?_
    refine Of rfl (po_faddr rfl (by exact fc_field_24_1_1)) ?_
    refine Or rfl (po_load rfl (by exact fc_flat_3) (by rfl)) ?_
    refine Of rfl (po_move rfl) ?_
    refine Of rfl (po_move rfl) ?_
    refine Or rfl (po_iaddr rfl rfl (by exact fc_slice_35_3_1) (by first | omega | (simp <;> omega)) (by first | omega | (simp <;> omega))) ?_
    refine Or rfl (po_load_sl rfl (List.getElem?_eq_getElem (by first | omega | (simp <;> omega))) (by exact fc_flat_3) (by rfl)) ?_
    refine Of rfl (po_move rfl) ?_
    refine o_st rfl (st_call (co_fn rfl rfl) (ref_Over q.w q.h ((nodesN q.w q.h q.c i)[(m : Int).toNat]'(by omega)) k) (by infer_instance) rfl rfl rfl ?_)
    rintro v36 _ ⟨rfl, rfl⟩
    try dsimp only [ca, na, GridS.l, GridS.p, MeshS.l, MeshS.lF, MeshS.p, FinderS.l, FinderS.p, FinderS.lF, RouteS.l, RouteS.p, GridS.lT, RouteS.lT]
    refine ⟨fun _ => (by first | exact fun _ h => h | exact ent), ?_⟩
    rw [hce, hn]
    refine Of rfl (po_assign rfl) ?_
    refine o_nil ?_
    refine Aw (Sq (Rg ?_))
    refine Wp (po_loada rfl (by exact fc_agg_24_3) (by rfl)) ?_
    refine rp 1 rfl ?_
    refine Wc (co_fn rfl rfl) (ref_open q.w q.h cv q.c n) ?_
    rintro v39 _ ⟨rfl, rfl⟩
    try dsimp only [ca, na, GridS.l, GridS.p, MeshS.l, MeshS.lF, MeshS.p, FinderS.l, FinderS.p, FinderS.lF, RouteS.l, RouteS.p, GridS.lT, RouteS.lT]
    by_cases ho : Opn q.c n
    ·skip
     refine ws (st_po (po_bt (po_move rfl) (decide_eq_true ho)) rfl rfl rfl ?_)
     have hnl2 : 0 ≤ n ∧ n < q.c.length := ⟨ho.1, ho.2.1⟩
     have hgn : gAt q.c n = q.c[n.toNat]'(by omega) := gAt_get (by omega)
     have hgd : gAt d n = d[n.toNat]'(by omega) := gAt_get (by omega)
     have hbn := ok.bt _ (List.getElem_mem (show n.toNat < q.c.length by omega))
     have hbd := hdr _ (List.getElem_mem (show n.toNat < d.length by omega))
     refine rp 2 rfl ?_
     refine Wp (po_iaddr rfl rfl (by exact fc_slice_35_3_1) (by first | omega | (simp <;> omega)) (by first | omega | (simp <;> omega))) ?_
     refine Wp (po_load_sl rfl (List.getElem?_eq_getElem (by first | omega | (simp <;> omega))) (by exact fc_flat_3) (by rfl)) ?_
     refine Wp (po_lt rfl rfl) ?_
     refine rp 1 rfl ?_
     refine Sn (Aw ?_)
     refine Rc rfl ?_ ?_
     ·skip
      intro hdn
      refine r_ord [24] _ [(0, 1), (1, 1), (2, 0), (3, 1), (4, 0), (5, 1), (6, 1), (7, 0), (8, 0), (10, 1), (11, 1), (12, 0), (13, 1), (14, 0), (15, 0), (16, 1), (17, 1), (18, 1), (19, 0), (20, 0), (21, 1), (9, 2), (22, 2), (23, 2), (24, 2), (25, 1)] fc_mixed (by kernel_rfl) (fun _ h => h) ?_
      refine Of rfl (po_move rfl) ?_
      refine Of rfl (po_faddr rfl (by exact fc_field_24_0_0)) ?_
      refine Or rfl (po_load rfl (by exact fc_flat_3) (by rfl)) ?_
      refine Of rfl (po_faddr rfl (by exact fc_field_24_1_1)) ?_
      refine Or rfl (po_load rfl (by exact fc_flat_3) (by rfl)) ?_
      refine Of rfl (po_move rfl) ?_
      refine Of rfl (po_move rfl) ?_
      refine Or rfl (po_iaddr rfl rfl (by exact fc_slice_35_3_1) (by first | omega | (simp <;> omega)) (by first | omega | (simp <;> omega))) ?_
      refine Or rfl (po_load_sl rfl (List.getElem?_eq_getElem (by first | omega | (simp <;> omega))) (by exact fc_flat_3) (by rfl)) ?_
      refine Of rfl (po_move rfl) ?_
      refine Of rfl (po_faddr rfl (by exact fc_field_24_2_2)) ?_
      refine Or rfl (po_load rfl (by exact fc_flat_22) (by rfl)) ?_
      refine Of rfl (po_move rfl) ?_
      refine Or rfl (po_iaddr rfl rfl (by exact fc_slice_22_5_1) (by first | omega | (simp <;> omega)) (by first | omega | (simp <;> omega))) ?_
      refine Or rfl (po_load_sl rfl (List.getElem?_eq_getElem (by first | omega | (simp <;> omega))) (by exact fc_flat_5) (by rfl)) ?_
      refine Of rfl (po_conv_w rfl (by exact fc_int_5_u8) (by exact fc_int_3_i64) (wrap_i64 _ (by omega) (by omega))) ?_
      refine Of rfl (po_move rfl) ?_
      refine Of rfl (po_move rfl) ?_
      refine Or rfl (po_iaddr rfl rfl (by exact fc_slice_35_3_1) (by first | omega | (simp <;> omega)) (by first | omega | (simp <;> omega))) ?_
      refine Or rfl (po_load_sl rfl (List.getElem?_eq_getElem (by first | omega | (simp <;> omega))) (by exact fc_flat_3) (by rfl)) ?_
      refine Of rfl (po_add' rfl rfl (by omega) (by omega)) ?_
      refine o_st rfl (st_call (co_fn rfl rfl) (ref_Local q.w q.h ((nodesN q.w q.h q.c i)[(m : Int).toNat]'(by omega))) (by infer_instance) rfl rfl rfl ?_)
      rintro v56 _ ⟨rfl, rfl⟩
      try dsimp only [ca, na, GridS.l, GridS.p, MeshS.l, MeshS.lF, MeshS.p, FinderS.l, FinderS.p, FinderS.lF, RouteS.l, RouteS.p, GridS.lT, RouteS.lT]
      refine ⟨fun _ => (by first | exact fun _ h => h | exact ent), ?_⟩
      rw [hce]
      refine o_st rfl (st_po (po_build1 rfl (by exact fc_zero_45) (by exact fc_places_45_0_1_2) (by exact fc_info_45) rfl) rfl rfl rfl ?_)
      refine ⟨fun _ => (by first | exact fun _ h => h | exact ent), ?_⟩
      refine o_st rfl (st_xo (xo_bslice eS [⟨localN q.w q.h c, k, q.c[n.toNat]'(by omega) + d[n.toNat]'(by omega)⟩] rfl (by exact fc_slice_32_45_3) (by exact fc_elem_45_3_24) ⟨rfl, rfl, trivial⟩ rfl (by decide)) rfl rfl rfl ?_)
      rintro v70 _ rfl
      refine ⟨fun _ => (by first | exact fun _ h => h | exact ent), ?_⟩
      refine o_st rfl (st_xo (xo_append rfl rfl (by exact fc_slice_32_45_3) (by exact fc_slice_32_45_3) (by exact fc_elem_45_3_24) (by first | omega | (simp <;> omega)) (by first | omega | (simp <;> omega))) rfl rfl rfl ?_)
      rintro v71 _ rfl
      refine ⟨fun h => late_no h (by kernel_rfl), ?_⟩
      refine Of rfl (po_assign rfl) ?_
      refine o_nil ?_
      refine Bn (Aw (Rg ?_))
      refine rp 1 rfl ?_
      refine Wp (po_add' rfl rfl (by omega) (by omega)) ?_
      refine rp 1 rfl ?_
      refine Sn ?_
      rw [← hgn, ← hgd]
      exact at_again ((k + 1, v71, zs ++ [⟨localN q.w q.h c, k, gAt q.c n + gAt d n⟩])) (And.intro rfl (And.intro rfl (trivial))) (And.intro rfl (And.intro rfl (And.intro rfl (And.intro rfl (And.intro rfl (And.intro rfl (trivial))))))) (⟨by dsimp only; omega, by rw [refS_succ, hn, if_pos ⟨ho, by rw [hgd]; exact hdn⟩, hzs, List.append_assoc]⟩) (by dsimp only; omega) ent
     ·skip
      intro hdn
      refine Sk (Bn (Aw (Rg ?_)))
      refine rp 1 rfl ?_
      refine Wp (po_add' rfl rfl (by omega) (by omega)) ?_
      refine rp 1 rfl ?_
      refine Sn ?_
      exact at_again ((k + 1, ov, zs)) (And.intro rfl (And.intro rfl (trivial))) (And.intro rfl (And.intro rfl (And.intro rfl (And.intro rfl (And.intro rfl (And.intro rfl (trivial))))))) (⟨by dsimp only; omega, by rw [refS_succ, hn, if_neg (fun h => hdn (by have := h.2; rw [hgd] at this; exact this)), hzs, List.append_nil]⟩) (by dsimp only; omega) ent
    ·skip
     refine ws (st_po (po_bf (po_move rfl) (decide_eq_false ho)) rfl rfl rfl ?_)
     refine rp 6 rfl ?_
     refine Sn (Aw ?_)
     refine r_cond_f rfl rfl ?_
     refine Sk (Bn (Aw (Rg ?_)))
     refine rp 1 rfl ?_
     refine Wp (po_add' rfl rfl (by omega) (by omega)) ?_
     refine rp 1 rfl ?_
     refine Sn ?_
     exact at_again ((k + 1, ov, zs)) (And.intro rfl (And.intro rfl (trivial))) (And.intro rfl (And.intro rfl (And.intro rfl (And.intro rfl (And.intro rfl (And.intro rfl (trivial))))))) (⟨by dsimp only; omega, by rw [refS_succ, hn, if_neg (fun h => ho h.1), hzs, List.append_nil]⟩) (by dsimp only; omega) ent
   ·skip
    intro hk3
    refine Ex' (Ax (Ax (Bh (Bn (Aw (Rg ?_))))))
    refine rp 1 rfl ?_
    refine Wp (po_add' rfl rfl (by omega) (by omega)) ?_
    refine rp 1 rfl ?_
    refine Sn ?_
    exact at_again ((m + 1, ov, zs)) (And.intro rfl (And.intro rfl (trivial))) (And.intro rfl (And.intro rfl (And.intro rfl (And.intro rfl (And.intro rfl (trivial)))))) (⟨by dsimp only; omega, by unfold refO; rw [flat_snoc _ _ _ hml, hce', hzs, show k = 4 by omega, hxs]; rfl⟩) (by dsimp only; omega) ent
  ·skip
   intro hlt
   have hxs2 : xs = refO q.w q.h q.c (gAt d) i (nodesN q.w q.h q.c i).length := by rw [hxs, show m = (nodesN q.w q.h q.c i).length by omega]
   refine Ex' (Ax (Ax (Bh (Aw (Sq (Sq (Rg ?_)))))))
   refine Wp (po_faddr rfl (by exact fc_field_24_0_0)) ?_
   refine Wp (po_load rfl (by exact fc_flat_3) (by rfl)) ?_
   refine Wp (po_faddr rfl (by exact fc_field_24_1_1)) ?_
   refine Wp (po_load rfl (by exact fc_flat_3) (by rfl)) ?_
   refine rp 1 rfl ?_
   refine Wc (co_fn rfl rfl) (ref_Sector q.w q.h t) ?_
   rintro v77 _ ⟨rfl, rfl⟩
   try dsimp only [ca, na, GridS.l, GridS.p, MeshS.l, MeshS.lF, MeshS.p, FinderS.l, FinderS.p, FinderS.lF, RouteS.l, RouteS.p, GridS.lT, RouteS.lT]
   refine rp 1 rfl ?_
   refine Wp (po_eq rfl rfl) ?_
   by_cases hse : sectorN q.w q.h t = i
   ·skip
    refine ws (st_po (po_bt (po_move rfl) (decide_eq_true hse)) rfl rfl rfl ?_)
    refine Wp (po_loada rfl (by exact fc_agg_24_3) (by rfl)) ?_
    refine rp 1 rfl ?_
    refine Wc (co_fn rfl rfl) (ref_open q.w q.h cv q.c t) ?_
    rintro v83 _ ⟨rfl, rfl⟩
    try dsimp only [ca, na, GridS.l, GridS.p, MeshS.l, MeshS.lF, MeshS.p, FinderS.l, FinderS.p, FinderS.lF, RouteS.l, RouteS.p, GridS.lT, RouteS.lT]
    refine rp 1 rfl ?_
    refine Sn (Aw ?_)
    refine Rc rfl ?_ ?_
    ·skip
     intro hto
     refine Rg ?_
     refine rp 1 rfl ?_
     refine Wp (po_faddr rfl (by exact fc_field_24_0_0)) ?_
     refine Wp (po_load rfl (by exact fc_flat_3) (by rfl)) ?_
     refine Wp (po_faddr rfl (by exact fc_field_24_1_1)) ?_
     refine Wp (po_load rfl (by exact fc_flat_3) (by rfl)) ?_
     refine rp 1 rfl ?_
     refine Wc (co_fn rfl rfl) (ref_Local q.w q.h t) ?_
     rintro v91 _ ⟨rfl, rfl⟩
     try dsimp only [ca, na, GridS.l, GridS.p, MeshS.l, MeshS.lF, MeshS.p, FinderS.l, FinderS.p, FinderS.lF, RouteS.l, RouteS.p, GridS.lT, RouteS.lT]
     refine Wp (po_build1 rfl (by exact fc_zero_45) (by exact fc_places_45_0_1) (by exact fc_info_45) rfl) ?_
     refine Wx (xo_bslice eS [⟨localN q.w q.h t, 4, 0⟩] rfl (by exact fc_slice_32_45_3) (by exact fc_elem_45_3_24) ⟨rfl, rfl, trivial⟩ rfl (by decide)) ?_
     rintro v93 _ rfl
     refine Wx (xo_append rfl rfl (by exact fc_slice_32_45_3) (by exact fc_slice_32_45_3) (by exact fc_elem_45_3_24) (by first | omega | (simp <;> omega)) (by first | omega | (simp <;> omega))) ?_
     rintro v94 _ rfl
     refine rp 1 rfl ?_
     refine Sn (Aw (Sq (Rg ?_)))
     refine rp 1 rfl ?_
     refine Wc (co_fn rfl rfl) (ref_SortSeeds v94 (xs ++ [⟨localN q.w q.h t, 4, 0⟩]) (by rw [List.length_append, List.length_singleton]; omega)) ?_
     rintro v96 _ ⟨ys, rfl, hpw, hmm⟩
     try dsimp only [ca, na, GridS.l, GridS.p, MeshS.l, MeshS.lF, MeshS.p, FinderS.l, FinderS.p, FinderS.lF, RouteS.l, RouteS.p, GridS.lT, RouteS.lT]
     refine rp 1 rfl ?_
     refine Sn (Aw (Rt ?_))
     refine at_ret1 rfl (rv_tmp rfl) ⟨_, ⟨ys, rfl, hpw, fun s => by rw [hmm s, hxs2]; unfold refG; rw [if_pos ⟨hse, hto⟩]⟩, ?_⟩
     try dsimp only [ca, na, GridS.l, GridS.p, MeshS.l, MeshS.lF, MeshS.p, FinderS.l, FinderS.p, FinderS.lF, RouteS.l, RouteS.p, GridS.lT, RouteS.lT]
     exact ent
    ·skip
     intro hto
     refine Sk (Aw (Sq (Rg ?_)))
     refine rp 1 rfl ?_
     refine Wc (co_fn rfl rfl) (ref_SortSeeds ov xs (by omega)) ?_
     rintro v96 _ ⟨ys, rfl, hpw, hmm⟩
     try dsimp only [ca, na, GridS.l, GridS.p, MeshS.l, MeshS.lF, MeshS.p, FinderS.l, FinderS.p, FinderS.lF, RouteS.l, RouteS.p, GridS.lT, RouteS.lT]
     refine rp 1 rfl ?_
     refine Sn (Aw (Rt ?_))
     refine at_ret1 rfl (rv_tmp rfl) ⟨_, ⟨ys, rfl, hpw, fun s => by rw [hmm s, hxs2]; unfold refG; rw [if_neg (fun h => hto h.2), List.append_nil]⟩, ?_⟩
     try dsimp only [ca, na, GridS.l, GridS.p, MeshS.l, MeshS.lF, MeshS.p, FinderS.l, FinderS.p, FinderS.lF, RouteS.l, RouteS.p, GridS.lT, RouteS.lT]
     exact ent
   ·skip
    refine ws (st_po (po_bf (po_move rfl) (decide_eq_false hse)) rfl rfl rfl ?_)
    refine rp 4 rfl ?_
    refine Sn (Aw ?_)
    refine r_cond_f rfl rfl ?_
    refine Sk (Aw (Sq (Rg ?_)))
    refine rp 1 rfl ?_
    refine Wc (co_fn rfl rfl) (ref_SortSeeds ov xs (by omega)) ?_
    rintro v96 _ ⟨ys, rfl, hpw, hmm⟩
    try dsimp only [ca, na, GridS.l, GridS.p, MeshS.l, MeshS.lF, MeshS.p, FinderS.l, FinderS.p, FinderS.lF, RouteS.l, RouteS.p, GridS.lT, RouteS.lT]
    refine rp 1 rfl ?_
    refine Sn (Aw (Rt ?_))
    refine at_ret1 rfl (rv_tmp rfl) ⟨_, ⟨ys, rfl, hpw, fun s => by rw [hmm s, hxs2]; unfold refG; rw [if_neg (fun h => hse h.1), List.append_nil]⟩, ?_⟩
    try dsimp only [ca, na, GridS.l, GridS.p, MeshS.l, MeshS.lF, MeshS.p, FinderS.l, FinderS.p, FinderS.lF, RouteS.l, RouteS.p, GridS.lT, RouteS.lT]
    exact ent
end Hd
end
section
namespace Hd
set_option maxRecDepth 100000
open Go

theorem flat_rng {g : GridS} (ok : GridOk g) {t : Int} {d : List Int} (hl : d.length = g.c.length) (hd : ∀ c : Int, 0 ≤ c → c < g.c.length → gAt d c = flD g t c) : ∀ x ∈ d, 0 ≤ x ∧ x ≤ 1099511627776 := by
  intro x hx
  obtain ⟨i, hi, rfl⟩ := List.getElem_of_mem hx
  have hI : INF = 1099511627776 := rfl
  have h1 := hd i (by omega) (by omega)
  rw [gAt_nat hi] at h1
  have := (fl_is ok t).rng i
  omega
theorem law16_Asks (K : HP) (w h : Int) (cv : Value) (c : List Int) [Rd [K] cv Int eB c] (hc : ∀ x ∈ c, 0 ≤ x ∧ x ≤ 255) (goal sector : Int) (raw : Bool) :
    Spec PP 3 #[.int .i64 w, .int .i64 h, cv, .int .i64 goal, .int .i64 sector, .bool raw] [K] (fun v M => v = .bool true ∧ M = [K]) := by
  refine spec_of (Go.Proofs.Tryz.func3) rfl rfl rfl (by exact fc_enters_3) ?_
  intro g F
  try dsimp only [ca, na, GridS.l, GridS.p, MeshS.l, MeshS.lF, MeshS.p, FinderS.l, FinderS.p, FinderS.lF, RouteS.l, RouteS.p, GridS.lT, RouteS.lT]
  refine Sq (Rg ?_)
  refine rp 1 rfl ?_
  refine Sn (Aw (Sq (Rg ?_)))
  refine rp 3 rfl ?_
  refine Wc (co_fn rfl rfl) (ref_Made K w h cv c hc) ?_
  rintro v21 _ ⟨W, H, mv, C, rfl, rfl, hm⟩
  try dsimp only [ca, na, GridS.l, GridS.p, MeshS.l, MeshS.lF, MeshS.p, FinderS.l, FinderS.p, FinderS.lF, RouteS.l, RouteS.p, GridS.lT, RouteS.lT]
  have hmm := may_mul hm.may.1
  have hml := hm.len
  have hcn := made_cnt hm
  refine Wx (xo_alloc (by exact fc_zero_24)) ?_
  rintro _ _ ⟨b13, rfl, rfl⟩
  refine Ws (so_storea1 rfl rfl (by exact fc_agg_24_3) rfl rfl) ?_
  refine Sn (Aw (Sq (Rg ?_)))
  refine rp 1 rfl ?_
  refine Wp (po_faddr rfl (by exact fc_field_24_2_2)) ?_
  refine Wp (po_load rfl (by exact fc_flat_22) (by rfl)) ?_
  refine Wp (po_len rfl (by exact fc_slice_22_5_1)) ?_
  refine Wp (po_sub' rfl rfl (by omega) (by omega)) ?_
  refine Wc (co_fn rfl rfl) (ref_Within goal 0 ((C.length : Int) - 1) (by omega) (by omega) (by omega)) ?_
  rintro v27 _ ⟨rfl, rfl⟩
  try dsimp only [ca, na, GridS.l, GridS.p, MeshS.l, MeshS.lF, MeshS.p, FinderS.l, FinderS.p, FinderS.lF, RouteS.l, RouteS.p, GridS.lT, RouteS.lT]
  have htc := made_cell hm goal
  generalize 0 + goal % ((C.length : Int) - 1 - 0 + 1) = t at htc
  refine rp 1 rfl ?_
  refine Sn (Aw (Sq (Rg ?_)))
  refine Wp (po_loada rfl (by exact fc_agg_24_3) (by rfl)) ?_
  refine rp 1 rfl ?_
  refine Wc (co_fn rfl rfl) (law16_found W H mv C hm t htc) ?_
  rintro v31 _ ⟨f, r, rfl, rfl, ok, hw, hh, hcc, hep, hre, hg, hro, hvs⟩
  try dsimp only [ca, na, GridS.l, GridS.p, MeshS.l, MeshS.lF, MeshS.p, FinderS.l, FinderS.p, FinderS.lF, RouteS.l, RouteS.p, GridS.lT, RouteS.lT]
  subst hw hh hcc hg
  refine rp 5 rfl ?_
  refine Sn (Aw (Sq (Sq (Rg ?_))))
  refine rp 1 rfl ?_
  refine Wp (po_peq rfl rfl (by exact fc_ptr_27)) ?_
  refine Sn (Aw ?_)
  first | refine r_dec_f rfl (by simp) ?_ | refine r_nd_f rfl (by simp) ?_ | refine r_cond_f rfl (by simp) ?_
  refine Sk (Aw ?_)
  refine r_joink (S := Int) (fun i => [(4, .int .i64 i)]) [(13, _), (14, _), (15, _), (16, _)] (fun i => Blk b13 24 [.int .i64 f.m.g.w, .int .i64 f.m.g.h, mv] :: Sl eB mv f.m.g.c :: K :: f.m.g.lT (r.lT [F])) (fun i => True) (And.intro rfl (And.intro rfl (And.intro rfl (And.intro rfl (trivial))))) ?_ ?_
  ·skip
   refine Sq (Rg ?_)
   refine rp 1 rfl ?_
   refine Wp (po_not rfl) ?_
   refine Sn (Aw ?_)
   refine Rc rfl ?_ ?_
   ·skip
    intro hr
    refine Rg ?_
    refine rp 1 rfl ?_
    refine Wp (po_faddr rfl (by exact fc_field_24_0_0)) ?_
    refine Wp (po_load rfl (by exact fc_flat_3) (by rfl)) ?_
    refine Wp (po_faddr rfl (by exact fc_field_24_1_1)) ?_
    refine Wp (po_load rfl (by exact fc_flat_3) (by rfl)) ?_
    refine Wc (co_fn rfl rfl) (ref_Count f.m.g.w f.m.g.h) ?_
    rintro v43 _ ⟨rfl, rfl⟩
    try dsimp only [ca, na, GridS.l, GridS.p, MeshS.l, MeshS.lF, MeshS.p, FinderS.l, FinderS.p, FinderS.lF, RouteS.l, RouteS.p, GridS.lT, RouteS.lT]
    refine Wc (co_fn rfl rfl) (ref_Within sector (-1) ((secsN f.m.g.w f.m.g.h).1 * (secsN f.m.g.w f.m.g.h).2) (by omega) (by omega) (by omega)) ?_
    rintro v44 _ ⟨rfl, rfl⟩
    try dsimp only [ca, na, GridS.l, GridS.p, MeshS.l, MeshS.lF, MeshS.p, FinderS.l, FinderS.p, FinderS.lF, RouteS.l, RouteS.p, GridS.lT, RouteS.lT]
    refine rp 1 rfl ?_
    refine Sn ?_
    exact at_join ((-1 + sector % ((secsN f.m.g.w f.m.g.h).1 * (secsN f.m.g.w f.m.g.h).2 - -1 + 1))) (And.intro rfl (trivial)) (And.intro rfl (And.intro rfl (And.intro rfl (And.intro rfl (trivial))))) (trivial) ent
   ·skip
    intro hr
    refine Sk ?_
    exact at_join (sector) (And.intro rfl (trivial)) (And.intro rfl (And.intro rfl (And.intro rfl (And.intro rfl (trivial))))) (trivial) ent
  ·skip
   rintro i hI
   try dsimp only [ca, na, GridS.l, GridS.p, MeshS.l, MeshS.lF, MeshS.p, FinderS.l, FinderS.p, FinderS.lF, RouteS.l, RouteS.p, GridS.lT, RouteS.lT]
   refine Sq (Rg ?_)
   refine rp 1 rfl ?_
   refine Sn (Aw ?_)
   refine r_joink (S := Value × List Seed) (fun ⟨wv, ws⟩ => [(17, wv)]) [(4, _), (15, _), (16, _)] (fun ⟨wv, ws⟩ => Sl eS wv ws :: Blk b13 24 [.int .i64 f.m.g.w, .int .i64 f.m.g.h, mv] :: Sl eB mv f.m.g.c :: K :: f.m.g.lT (r.lT [F])) (fun ⟨wv, ws⟩ => ws.Pairwise ltS ∧ ∀ s, s ∈ ws ↔ s ∈ seedsG f.m.g.w f.m.g.h f.m.g.c (atN r) r.goal i) (And.intro rfl (And.intro rfl (And.intro rfl (trivial)))) ?_ ?_
   ·skip
    refine Sq (Rg ?_)
    refine rp 1 rfl ?_
    refine Wp (po_faddr rfl (by exact fc_field_24_0_0)) ?_
    refine Wp (po_load rfl (by exact fc_flat_3) (by rfl)) ?_
    refine Wp (po_faddr rfl (by exact fc_field_24_1_1)) ?_
    refine Wp (po_load rfl (by exact fc_flat_3) (by rfl)) ?_
    refine Wc (co_fn rfl rfl) (ref_Count f.m.g.w f.m.g.h) ?_
    rintro v50 _ ⟨rfl, rfl⟩
    try dsimp only [ca, na, GridS.l, GridS.p, MeshS.l, MeshS.lF, MeshS.p, FinderS.l, FinderS.p, FinderS.lF, RouteS.l, RouteS.p, GridS.lT, RouteS.lT]
    refine Wp (po_sub' rfl rfl (by omega) (by omega)) ?_
    refine Wc (co_fn rfl rfl) (ref_In i 0 ((secsN f.m.g.w f.m.g.h).1 * (secsN f.m.g.w f.m.g.h).2 - 1)) ?_
    rintro v52 _ ⟨rfl, rfl⟩
    try dsimp only [ca, na, GridS.l, GridS.p, MeshS.l, MeshS.lF, MeshS.p, FinderS.l, FinderS.p, FinderS.lF, RouteS.l, RouteS.p, GridS.lT, RouteS.lT]
    refine Sn (Aw ?_)
    refine Rc rfl ?_ ?_
    ·skip
     intro hin
     have his : IsS f.m.g.w f.m.g.h i := iss_of (by omega) (by omega)
     refine r_ord [] _ [(0, 0), (1, 1), (2, 0), (3, 1), (5, 1), (4, 2), (6, 2), (7, 1)] fc_mixed (by kernel_rfl) (fun _ h => h) ?_
     refine Or rfl (po_loada rfl (by exact fc_agg_24_3) (by rfl)) ?_
     refine Of rfl (po_move rfl) ?_
     refine Or rfl (po_loada rfl (by exact fc_agg_24_3) (by rfl)) ?_
     refine Of rfl (po_move rfl) ?_
     refine Of rfl (po_move rfl) ?_
     refine o_st rfl (st_call (co_fn rfl rfl) (ref_Flat f.m.g ok mv r.goal) (by infer_instance) rfl rfl rfl ?_)
     rintro v57 _ ⟨d, rfl, hdl, hd⟩
     try dsimp only [ca, na, GridS.l, GridS.p, MeshS.l, MeshS.lF, MeshS.p, FinderS.l, FinderS.p, FinderS.lF, RouteS.l, RouteS.p, GridS.lT, RouteS.lT]
     refine ⟨fun _ => (by first | exact fun _ h => h | exact ent), ?_⟩
     refine o_st rfl (st_call (co_fn rfl rfl) (ref_Seeds f.m.g ok mv v57 r.goal i d hdl (flat_rng ok hdl hd)) (by infer_instance) rfl rfl rfl ?_)
     rintro v59 _ ⟨ws, rfl, hwp, hwm⟩
     try dsimp only [ca, na, GridS.l, GridS.p, MeshS.l, MeshS.lF, MeshS.p, FinderS.l, FinderS.p, FinderS.lF, RouteS.l, RouteS.p, GridS.lT, RouteS.lT]
     refine ⟨fun _ => (by first | exact fun _ h => h | exact ent), ?_⟩
     refine Of rfl (po_assign rfl) ?_
     refine o_nil ?_
     exact at_join ((v59, ws)) (And.intro rfl (trivial)) (And.intro rfl (And.intro rfl (And.intro rfl (trivial)))) (⟨hwp, fun s => by rw [hwm s, mem_refG ok hro hd his htc]⟩) ent
    ·skip
     intro hin
     refine Sk ?_
     exact at_join ((.slice none 0 0, [])) (And.intro rfl (trivial)) (And.intro rfl (And.intro rfl (And.intro rfl (trivial)))) (⟨.nil, fun s => by rw [seedsG_none htc (fun h => hin (by have := h.2; rw [secsN, if_pos h.1]; dsimp only; omega))]⟩) ent
   ·skip
    rintro ⟨wv, ws⟩ ⟨hwp, hwm⟩
    try dsimp only [ca, na, GridS.l, GridS.p, MeshS.l, MeshS.lF, MeshS.p, FinderS.l, FinderS.p, FinderS.lF, RouteS.l, RouteS.p, GridS.lT, RouteS.lT]
    refine Sq (Rg ?_)
    refine Wc (co_fn rfl rfl) (law16_told) ?_
    rintro v60 _ ⟨rfl, rfl⟩
    try dsimp only [ca, na, GridS.l, GridS.p, MeshS.l, MeshS.lF, MeshS.p, FinderS.l, FinderS.p, FinderS.lF, RouteS.l, RouteS.p, GridS.lT, RouteS.lT]
    refine Wp (po_bt (po_move rfl) (rfl)) ?_
    refine rp 3 rfl ?_
    refine Wc (co_fn rfl rfl) (inject_Seeds f.m.g ok r hro.rng (by rw [hre, hep]) htc i) ?_
    rintro v65 _ ⟨ys, rfl, hp, hs⟩
    try dsimp only [ca, na, GridS.l, GridS.p, MeshS.l, MeshS.lF, MeshS.p, FinderS.l, FinderS.p, FinderS.lF, RouteS.l, RouteS.p, GridS.lT, RouteS.lT]
    have hyl : ys.length ≤ 1025 := by rw [hp.length_eq]; exact seedsG_len ..
    have hyw : ys = ws := sorted_ext hs hwp fun s => by rw [hwm s, hp.mem_iff]
    refine rp 1 rfl ?_
    refine Wc (co_fn rfl rfl) (ref_SameSeeds v65 wv ys ws (by omega)) ?_
    rintro v67 _ ⟨rfl, rfl⟩
    try dsimp only [ca, na, GridS.l, GridS.p, MeshS.l, MeshS.lF, MeshS.p, FinderS.l, FinderS.p, FinderS.lF, RouteS.l, RouteS.p, GridS.lT, RouteS.lT]
    refine rp 2 rfl ?_
    refine Sn (Aw (Rt ?_))
    refine at_ret1 rfl (rv_tmp rfl) ⟨_, ⟨by rw [decide_eq_true hyw], rfl⟩, ?_⟩
    try dsimp only [ca, na, GridS.l, GridS.p, MeshS.l, MeshS.lF, MeshS.p, FinderS.l, FinderS.p, FinderS.lF, RouteS.l, RouteS.p, GridS.lT, RouteS.lT]
    exact ent
end Hd
end
section
namespace Hd
/-! ## the least key at a side of a cell -/
def Hit (c s : Int) (x : Seed) : Prop := x.cell = c ∧ x.side = s
instance (c s : Int) (x : Seed) : Decidable (Hit c s x) := by unfold Hit; infer_instance
theorem best_fold (c s : Int) : ∀ (l : List Seed) (b : Int) (o : Bool), (o = false → b = INF) →
    let r := l.foldl (bestF c s) (b, o)
    (r.2 = false → r.1 = INF) ∧ ((o = false ∧ ∀ x ∈ l, ¬ Hit c s x) → r.1 = INF) ∧ (r.1 = b ∨ ∃ x ∈ l, Hit c s x ∧ x.key = r.1) ∧ (∀ x ∈ l, Hit c s x → r.1 ≤ x.key) ∧ (o = true → r.1 ≤ b) ∧ ((∃ x ∈ l, Hit c s x) ∧ o = false → ∃ x ∈ l, Hit c s x ∧ x.key = r.1)
  | [], b, o, hb => by
    refine ⟨hb, fun h => hb h.1, .inl rfl, by simp, fun _ => Int.le_refl _, fun h => by obtain ⟨⟨x, hx, _⟩, _⟩ := h; cases hx⟩
  | y :: l, b, o, hb => by
    have hstep : bestF c s (b, o) y = if Hit c s y ∧ (o = false ∨ y.key < b) then (y.key, true) else (b, o) := by
      unfold bestF Hit
      by_cases h1 : y.cell = c <;> by_cases h2 : y.side = s <;> cases o <;> simp [h1, h2]
    rw [List.foldl_cons, hstep]
    by_cases h : Hit c s y ∧ (o = false ∨ y.key < b)
    · rw [if_pos h]
      obtain ⟨i1, i2, i3, i4, i5, i6⟩ := best_fold c s l y.key true (by simp)
      refine ⟨i1, fun hn => absurd h.1 (hn.2 y (List.mem_cons_self ..)), ?_, fun x hx hh => ?_, fun ho => ?_, fun _ => ?_⟩
      · rcases i3 with e | ⟨x, hx, hh⟩
        · exact .inr ⟨y, List.mem_cons_self .., h.1, e.symm⟩
        · exact .inr ⟨x, List.mem_cons_of_mem _ hx, hh⟩
      · rcases List.mem_cons.1 hx with e | e
        · subst e; exact i5 rfl
        · exact i4 x e hh
      · have := i5 rfl
        rcases h.2 with e | e
        · rw [ho] at e; cases e
        · omega
      · rcases i3 with e | ⟨x, hx, hh⟩
        · exact ⟨y, List.mem_cons_self .., h.1, e.symm⟩
        · exact ⟨x, List.mem_cons_of_mem _ hx, hh⟩
    · rw [if_neg h]
      obtain ⟨i1, i2, i3, i4, i5, i6⟩ := best_fold c s l b o hb
      refine ⟨i1, fun hn => i2 ⟨hn.1, fun x hx => hn.2 x (List.mem_cons_of_mem _ hx)⟩, ?_, fun x hx hh => ?_, i5, fun he => ?_⟩
      · rcases i3 with e | ⟨x, hx, hh⟩
        · exact .inl e
        · exact .inr ⟨x, List.mem_cons_of_mem _ hx, hh⟩
      · rcases List.mem_cons.1 hx with e | e
        · subst e
          cases o with
          | false => exact absurd ⟨hh, .inl rfl⟩ h
          | true =>
            have := i5 rfl
            have : ¬ x.key < b := fun hlt => h ⟨hh, .inr hlt⟩
            omega
        · exact i4 x e hh
      · obtain ⟨⟨x, hx, hh⟩, ho⟩ := he
        rcases List.mem_cons.1 hx with e | e
        · subst e; exact absurd ⟨hh, .inl ho⟩ h
        · obtain ⟨z, hz, hz2⟩ := i6 ⟨⟨x, e, hh⟩, ho⟩
          exact ⟨z, List.mem_cons_of_mem _ hz, hz2⟩
theorem best_none {l : List Seed} {c s : Int} (h : ∀ x ∈ l, ¬ Hit c s x) : bestN l c s = INF := (best_fold c s l INF false (fun _ => rfl)).2.1 ⟨rfl, h⟩
theorem best_one {l : List Seed} {c s : Int} {x : Seed} (hp : l.Pairwise fun x y => ¬ (x.cell = y.cell ∧ x.side = y.side)) (hx : x ∈ l) (hh : Hit c s x) : bestN l c s = x.key := by
  obtain ⟨z, hz, hz2, hk⟩ := (best_fold c s l INF false (fun _ => rfl)).2.2.2.2.2 ⟨⟨x, hx, hh⟩, rfl⟩
  have : z = x := by
    apply Classical.byContradiction
    intro hne
    obtain ⟨i, hi, rfl⟩ := List.getElem_of_mem hz
    obtain ⟨j, hj, rfl⟩ := List.getElem_of_mem hx
    have h' := List.pairwise_iff_getElem.1 hp
    have e1 : l[i].cell = l[j].cell ∧ l[i].side = l[j].side := ⟨hz2.1.trans hh.1.symm, hz2.2.trans hh.2.symm⟩
    rcases Nat.lt_trichotomy i j with h | h | h
    · exact h' i j hi hj h e1
    · subst h; exact hne rfl
    · exact h' j i hj hi h ⟨e1.1.symm, e1.2.symm⟩
  rw [← this]; exact hk.symm
/-! ## the field that is made of a tile and of seeds is that of the whole map -/
section
variable {g : GridS} {r : RouteS} {i : Int} {ys : List Seed}
theorem nd_of {c k : Int} (hc : OpC g.w g.h g.c c) (hk : 0 ≤ k ∧ k < 4) (hn : OpC g.w g.h g.c (stepN g.w g.h c k)) (hne : sectorN g.w g.h (stepN g.w g.h c k) ≠ sectorN g.w g.h c) : Nd g.w g.h g.c (stepN g.w g.h c k) := by
  obtain ⟨s', hs', e'⟩ := adj_symm hn.1.1 ⟨k, hk, rfl⟩
  exact ⟨hn, s', hs', by rw [e']; exact hc.1.1, by rw [e']; exact fun x => hne x.symm⟩
/-- the seeds, in words of the whole map -/
structure Fed (g : GridS) (t i : Int) (ys : List Seed) : Prop where
  pw : ys.Pairwise fun x y => ¬ (x.cell = y.cell ∧ x.side = y.side)
  mem : ∀ s, s ∈ ys ↔ (∃ c k : Int, OpC g.w g.h g.c c ∧ sectorN g.w g.h c = i ∧ (0 ≤ k ∧ k < 4) ∧ OpC g.w g.h g.c (stepN g.w g.h c k) ∧ sectorN g.w g.h (stepN g.w g.h c k) ≠ i ∧ flD g t (stepN g.w g.h c k) < INF ∧ s = ⟨localN g.w g.h c, k, gAt g.c (stepN g.w g.h c k) + flD g t (stepN g.w g.h c k)⟩) ∨
    (InS g.w g.h g.c i t ∧ s = ⟨localN g.w g.h t, 4, 0⟩)
theorem fed_of (ok : GridOk g) (hr : RouteOk g r) (hi : IsS g.w g.h i) (ht : IsC g.w g.h r.goal) (hp : ys.Perm (seedsG g.w g.h g.c (atN r) r.goal i)) : Fed g r.goal i ys := by
  have hI : INF = 1099511627776 := rfl
  refine ⟨(hp.pairwise_iff (fun h1 h2 => h1 ⟨h2.1.symm, h2.2.symm⟩)).2 (seedsG_pw ok hi), fun s => ?_⟩
  rw [hp.mem_iff]
  unfold seedsG
  rw [List.mem_append, mem_seedsO ok hi]
  refine or_congr ?_ ?_
  · constructor
    · rintro ⟨c, k, hc, hci, hk, hn, hne, hA, rfl⟩
      have hat := hr.at ok (stepN g.w g.h c k)
      rw [if_pos (nd_of hc hk hn (by rw [hci]; exact hne))] at hat
      have := (fl_is ok r.goal).rng (stepN g.w g.h c k)
      exact ⟨c, k, hc, hci, hk, hn, hne, by omega, by rw [hat]⟩
    · rintro ⟨c, k, hc, hci, hk, hn, hne, hA, rfl⟩
      have hat := hr.at ok (stepN g.w g.h c k)
      rw [if_pos (nd_of hc hk hn (by rw [hci]; exact hne))] at hat
      exact ⟨c, k, hc, hci, hk, hn, hne, by omega, by rw [hat]⟩
  · have e : (sectorN g.w g.h r.goal = i ∧ costN g.c r.goal ≠ 255) ↔ InS g.w g.h g.c i r.goal := by
      rw [cost_opn ok ht]
      have := ok.len
      exact ⟨fun h => ⟨⟨ht.2.1, by have := ht.2.2; omega, h.2⟩, ht, h.1⟩, fun h => ⟨h.2.2, h.1.2.2⟩⟩
    by_cases h : InS g.w g.h g.c i r.goal
    · rw [if_pos (e.2 h), List.mem_singleton]; exact ⟨fun x => ⟨h, x⟩, fun x => x.2⟩
    · rw [if_neg (fun x => h (e.1 x))]; exact ⟨fun x => (by cases x), fun x => absurd x.1 h⟩
theorem loc_inj {c d : Int} (hc : InS g.w g.h g.c i c) (hd : IsC g.w g.h d) (hdi : sectorN g.w g.h d = i) (e : localN g.w g.h d = localN g.w g.h c) : d = c := by
  have e1 := global_local hc.2.1
  have e2 := global_local hd
  rw [hc.2.2] at e1
  rw [hdi, e, e1] at e2
  exact e2.symm
theorem restr (ok : GridOk g) {t : Int} (hf : Fed g t i ys) :
    IsD g.w g.h g.c (InS g.w g.h g.c i) (fun c x => InS g.w g.h g.c i c ∧ srcS ys (localN g.w g.h c) x) (fun c => if InS g.w g.h g.c i c then flD g t c else INF) := by
  have hI : INF = 1099511627776 := rfl
  have hF := fl_is ok t
  refine ⟨fun c hn => if_neg hn, fun c => ?_, fun c x ⟨hc, hs⟩ => ?_, fun c m hc hm ha hl => ?_, fun c => ?_⟩
  · by_cases h : InS g.w g.h g.c i c
    · simp only [if_pos h]; exact hF.rng c
    · simp only [if_neg h]; exact .inl trivial
  · simp only [if_pos hc]
    obtain ⟨s, hsm, h1, rfl⟩ := hs
    rcases (hf.mem s).1 hsm with ⟨c', k, hco, hci, hk, hn, hne, hfl, rfl⟩ | ⟨htI, rfl⟩
    · have e := loc_inj hc hco.2 hci h1
      subst e
      have := hF.rel c' _ hco hn ⟨k, hk, rfl⟩ hfl
      dsimp only; omega
    · have e := loc_inj hc htI.2.1 htI.2.2 h1
      subst e
      exact hF.low t 0 ⟨htI.1, rfl, rfl⟩
  · simp only [if_pos hc, if_pos hm] at hl ⊢
    exact hF.rel c m ⟨hc.1, hc.2.1⟩ ⟨hm.1, hm.2.1⟩ ha hl
  · by_cases h : InS g.w g.h g.c i c
    · simp only [if_pos h]
      rcases hF.tight c with e | ⟨e0, e1, e2⟩ | ⟨m, hm, ⟨k, hk, ha⟩, hml, e⟩
      · exact .inl e
      · right; left
        rw [e2]
        exact ⟨h, _, (hf.mem _).2 (.inr ⟨by rw [← e1]; exact h, rfl⟩), by rw [e1], rfl⟩
      · by_cases hs : sectorN g.w g.h m = i
        · right; right
          have hmI : InS g.w g.h g.c i m := ⟨hm.1, hm.2, hs⟩
          exact ⟨m, hmI, ⟨k, hk, ha⟩, by simp only [if_pos hmI]; exact hml, by simp only [if_pos hmI]; exact e⟩
        · right; left
          rw [← ha] at hm hml hs e
          exact ⟨h, _, (hf.mem _).2 (.inl ⟨c, k, ⟨h.1, h.2.1⟩, h.2.2, hk, hm, hs, hml, rfl⟩), rfl, by dsimp only; omega⟩
    · simp only [if_neg h]; exact .inl trivial
theorem field_dist (ok : GridOk g) {t : Int} (hi : IsS g.w g.h i) (hf : Fed g t i ys) {d : List Int} (hdl : d.length = (tileN g i).c.length) (hd : IsDist (tileN g i).w (tileN g i).h (tileN g i).c (srcS ys) (dF d)) :
    ∀ l : Int, 0 ≤ l → l < d.length → gAt d l = flD g t (globalN g.w g.h i l) := by
  intro l h0 h1
  have hu := isD_uniq (fun c hc => (opn_cost ok hc.1).1) (tile_map ok hi hd) (restr ok hf) (globalN g.w g.h i l)
  have hl : l < (sizeN g.w g.h i).1 * (sizeN g.w g.h i).2 := by rw [← tile_len ok hi, ← hdl]; exact h1
  have hgc := (global_is hi h0 hl).1
  have hgs := sector_global hi h0 hl
  have hgl := local_global hi h0 hl
  by_cases h : InS g.w g.h g.c i (globalN g.w g.h i l)
  · simp only [if_pos h] at hu
    rw [onMap_g ok hi h hdl, hgl] at hu
    exact hu
  · have hno : ¬ Opn g.c (globalN g.w g.h i l) := fun ho => h ⟨ho, hgc, hgs⟩
    rw [(fl_is ok t).out _ (fun ho => hno ho.1)]
    have hnt : ¬ Opn (tileN g i).c l := fun ho => h (opn_local ok hi ho).1
    have := hd.wall l hnt
    rw [dF, if_pos ⟨h0, h1⟩] at this
    exact this
/-- the document's way on from a cell -/
def refK (g : GridS) (d : List Int) (c k : Int) : Prop := 0 ≤ stepN g.w g.h c k ∧ gAt g.c (stepN g.w g.h c k) ≠ 255 ∧ gAt d (stepN g.w g.h c k) + gAt g.c (stepN g.w g.h c k) = gAt d c
instance (g : GridS) (d : List Int) (c k : Int) : Decidable (refK g d c k) := by unfold refK; infer_instance
def refDir (g : GridS) (t : Int) (d : List Int) (c : Int) : Int := if 1099511627776 ≤ gAt d c then 5 else if c = t then 4 else if refK g d c 0 then 0 else if refK g d c 1 then 1 else if refK g d c 2 then 2 else if refK g d c 3 then 3 else 5
theorem first4 {g : GridS} {d : List Int} {c : Int} {k : Nat} (hno : ∀ j : Nat, j < k → ¬ refK g d c j) (hk : k < 4) (h : refK g d c k) : (if refK g d c 0 then 0 else if refK g d c 1 then 1 else if refK g d c 2 then 2 else if refK g d c 3 then 3 else 5) = (k : Int) := by
  have : k = 0 ∨ k = 1 ∨ k = 2 ∨ k = 3 := by omega
  rcases this with rfl | rfl | rfl | rfl
  · rw [if_pos (show refK g d c 0 from h)]; rfl
  · rw [if_neg (show ¬ refK g d c 0 from hno 0 (by omega)), if_pos (show refK g d c 1 from h)]; rfl
  · rw [if_neg (show ¬ refK g d c 0 from hno 0 (by omega)), if_neg (show ¬ refK g d c 1 from hno 1 (by omega)), if_pos (show refK g d c 2 from h)]; rfl
  · rw [if_neg (show ¬ refK g d c 0 from hno 0 (by omega)), if_neg (show ¬ refK g d c 1 from hno 1 (by omega)), if_neg (show ¬ refK g d c 2 from hno 2 (by omega)), if_pos (show refK g d c 3 from h)]; rfl
theorem none4 {g : GridS} {d : List Int} {c : Int} (hno : ∀ j : Nat, j < 4 → ¬ refK g d c j) : (if refK g d c 0 then 0 else if refK g d c 1 then 1 else if refK g d c 2 then 2 else if refK g d c 3 then 3 else 5) = (5 : Int) := by
  rw [if_neg (show ¬ refK g d c 0 from hno 0 (by omega)), if_neg (show ¬ refK g d c 1 from hno 1 (by omega)), if_neg (show ¬ refK g d c 2 from hno 2 (by omega)), if_neg (show ¬ refK g d c 3 from hno 3 (by omega))]
theorem field_dir (ok : GridOk g) {t : Int} (hi : IsS g.w g.h i) (hf : Fed g t i ys) {d D : List Int} (hdl : d.length = (tileN g i).c.length) (hd : IsDist (tileN g i).w (tileN g i).h (tileN g i).c (srcS ys) (dF d))
    (hD : ∀ c : Int, 0 ≤ c → c < g.c.length → gAt D c = flD g t c) {l : Int} (h0 : 0 ≤ l) (h1 : l < d.length) : dirN (tileN g i) ys d l = refDir g t D (globalN g.w g.h i l) := by
  have hI : INF = 1099511627776 := rfl
  have hF := fl_is ok t
  have hlen := ok.len
  have hdist := field_dist ok hi hf hdl hd
  have hl : l < (sizeN g.w g.h i).1 * (sizeN g.w g.h i).2 := by rw [← tile_len ok hi, ← hdl]; exact h1
  have hgc := (global_is hi h0 hl).1
  have hgs := sector_global hi h0 hl
  have hgl := local_global hi h0 hl
  have e1 := hdist l h0 h1
  generalize hc : globalN g.w g.h i l = c at *
  have e2 := hD c hgc.2.1 (by have := hgc.2.2; omega)
  unfold dirN refDir
  rw [e1, e2]
  have hr := hF.rng c
  by_cases hinf : flD g t c = INF
  · rw [if_pos (by omega), if_pos (by omega)]
  · rw [if_neg (show ¬ flD g t c = 1099511627776 by omega), if_neg (show ¬ 1099511627776 ≤ flD g t c by omega)]
    have hlt : flD g t c < INF := by omega
    have hco := hF.mem hlt
    have hcI : InS g.w g.h g.c i c := ⟨hco.1, hgc, hgs⟩
    have hhere : flD g t c = bestN ys l 4 ↔ c = t := by
      constructor
      · intro hb
        apply Classical.byContradiction
        intro hne
        rw [best_none (fun x hx hh => ?_)] at hb
        · omega
        · rcases (hf.mem x).1 hx with ⟨c', k, _, _, hk, _, _, _, rfl⟩ | ⟨htI, rfl⟩
          · have := hh.2; dsimp only at this; omega
          · have h2 := hh.1
            dsimp only at h2
            rw [← hgl] at h2
            exact hne (loc_inj hcI htI.2.1 htI.2.2 h2).symm
      · intro e
        rw [best_one hf.pw ((hf.mem ⟨localN g.w g.h t, 4, 0⟩).2 (.inr ⟨by rw [← e]; exact hcI, rfl⟩)) ⟨by rw [← e]; exact hgl, rfl⟩, e]
        have := hF.low t 0 ⟨by rw [← e]; exact hco.1, rfl, rfl⟩
        have := hF.rng t
        dsimp only; omega
    have hby : ∀ k : Int, 0 ≤ k ∧ k < 4 → (ByN (tileN g i) ys d l k ↔ refK g D c k) := by
      intro k hk
      have hin := step_in hgc hk
      rw [hgs, hgl] at hin
      have hso := step_ok hgc hk.1 (by omega)
      unfold ByN refK
      rw [e1, e2]
      by_cases ht : stepN (tileN g i).w (tileN g i).h l k < 0
      · rw [if_pos ht]
        have hnin : ¬ (0 ≤ stepN g.w g.h c k ∧ sectorN g.w g.h (stepN g.w g.h c k) = i) := fun h => by
          have := hin.1 h
          have h3 : stepN (sizeN g.w g.h i).1 (sizeN g.w g.h i).2 l k < 0 := ht
          omega
        constructor
        · intro hb
          apply Classical.byContradiction
          intro hne
          rw [best_none (fun x hx hh => ?_)] at hb
          · omega
          · rcases (hf.mem x).1 hx with ⟨c', k', hco', hci', hk', hn', hne', hfl', rfl⟩ | ⟨htI, rfl⟩
            · have h2 := hh.1
              have h3 := hh.2
              dsimp only at h2 h3
              subst h3
              rw [← hgl] at h2
              have e3 := loc_inj hcI hco'.2 hci' h2
              subst e3
              have hb2 := best_one hf.pw hx hh
              apply hne
              refine ⟨hn'.1.1, hn'.1.2.2, ?_⟩
              rw [hD _ hn'.1.1 hn'.1.2.1]
              dsimp only at hb2
              omega
            · have := hh.2; dsimp only at this; omega
        · rintro ⟨h2, h3, h4⟩
          have hn := (hso.2 h2).1
          have hnl := ok.isc.1 hn
          have hop : OpC g.w g.h g.c (stepN g.w g.h c k) := ⟨⟨hnl.1, hnl.2, h3⟩, hn⟩
          rw [hD _ hnl.1 hnl.2] at h4
          have hcn := opn_cost ok hop.1
          rw [best_one hf.pw ((hf.mem _).2 (.inl ⟨c, k, hco, hgs, hk, hop, fun h => hnin ⟨h2, h⟩, by omega, rfl⟩)) ⟨hgl, rfl⟩]
          dsimp only; omega
      · rw [if_neg ht]
        have ht' : ¬ stepN (sizeN g.w g.h i).1 (sizeN g.w g.h i).2 l k < 0 := ht
        have h2 := hin.2 (by omega)
        have hloc := step_local hgc hk h2.1 (by rw [h2.2, hgs])
        rw [hgs, hgl] at hloc
        have hn := (hso.2 h2.1).1
        have hnl := ok.isc.1 hn
        have htl : stepN (tileN g i).w (tileN g i).h l k = localN g.w g.h (stepN g.w g.h c k) := hloc
        have hll := local_lt hn
        rw [h2.2] at hll
        have hta := tile_at ok hi hll.1 hll.2
        have hgg := global_local hn
        rw [h2.2] at hgg
        rw [hgg] at hta
        have hdd := hdist (localN g.w g.h (stepN g.w g.h c k)) hll.1 (by rw [hdl, tile_len ok hi]; exact hll.2)
        rw [hgg] at hdd
        rw [htl, hta, hdd, hD _ hnl.1 hnl.2]
        exact ⟨fun h => ⟨h2.1, h.1, by omega⟩, fun h => ⟨h.2.1, by omega⟩⟩
    unfold firstN
    by_cases ht : c = t
    · rw [if_pos (hhere.2 ht), if_pos ht]
    · rw [if_neg (fun h => ht (hhere.1 h)), if_neg ht]
      simp only [hby 0 (by decide), hby 1 (by decide), hby 2 (by decide), hby 3 (by decide)]
end
end Hd
end
section
namespace Hd
set_option maxRecDepth 100000
open Go

theorem ref_Dir (q : GridS) (ok : GridOk q) (cv dv : Value) (t c : Int) (d : List Int) (hdl : d.length = q.c.length) (hdr : ∀ x ∈ d, 0 ≤ x ∧ x ≤ 1099511627776) (hc : IsC q.w q.h c) :
    Spec PP 58 #[mapV q.w q.h cv, .int .i64 t, dv, .int .i64 c] [Sl eB cv q.c, Sl eI dv d] (fun v M => v = .int .i64 (refDir q t d c) ∧ M = [Sl eB cv q.c, Sl eI dv d]) := by
  have hlen := ok.len
  have hcl := ok.isc.1 hc
  have hgc : gAt d c = d[c.toNat]'(by omega) := gAt_get (by omega)
  refine spec_of (Go.Proofs.Tryz.func58) rfl rfl rfl (by exact fc_enters_58) ?_
  intro g F
  try dsimp only [ca, na, GridS.l, GridS.p, MeshS.l, MeshS.lF, MeshS.p, FinderS.l, FinderS.p, FinderS.lF, RouteS.l, RouteS.p, GridS.lT, RouteS.lT]
  refine Sq (Rg ?_)
  refine Wx (xo_box rfl rfl) ?_
  rintro _ _ ⟨b4, rfl, rfl⟩
  refine rp 1 rfl ?_
  refine Sn (Aw (Sq (Sq (Rg ?_))))
  refine rp 2 rfl ?_
  refine Wp (po_iaddr rfl rfl (by exact fc_slice_35_3_1) (by first | omega | (simp <;> omega)) (by first | omega | (simp <;> omega))) ?_
  refine Wp (po_load_sl rfl (List.getElem?_eq_getElem (by first | omega | (simp <;> omega))) (by exact fc_flat_3) (by rfl)) ?_
  refine Wp (po_ge rfl rfl) ?_
  refine Sn (Aw ?_)
  refine Rc rfl ?_ ?_
  ·skip
   intro h5
   refine Sq (Rg ?_)
   refine rp 1 rfl ?_
   refine Sn (Aw (Rt (Ar ?_)))
   refine at_ret1 rfl (rv_tmp rfl) ⟨_, ⟨by rw [refDir, hgc, if_pos h5], rfl⟩, ?_⟩
   try dsimp only [ca, na, GridS.l, GridS.p, MeshS.l, MeshS.lF, MeshS.p, FinderS.l, FinderS.p, FinderS.lF, RouteS.l, RouteS.p, GridS.lT, RouteS.lT]
   exact ent
  ·skip
   intro h5
   refine Sk (Aw (Sq (Sq (Rg ?_))))
   refine rp 2 rfl ?_
   refine Wp (po_eq rfl rfl) ?_
   refine Sn (Aw ?_)
   refine Rc rfl ?_ ?_
   ·skip
    intro h4
    refine Sq (Rg ?_)
    refine rp 1 rfl ?_
    refine Sn (Aw (Rt (Ar ?_)))
    refine at_ret1 rfl (rv_tmp rfl) ⟨_, ⟨by rw [refDir, hgc, if_neg h5, if_pos h4], rfl⟩, ?_⟩
    try dsimp only [ca, na, GridS.l, GridS.p, MeshS.l, MeshS.lF, MeshS.p, FinderS.l, FinderS.p, FinderS.lF, RouteS.l, RouteS.p, GridS.lT, RouteS.lT]
    exact ent
   ·skip
    intro h4
    refine Sk (Aw (Sq (Sq (Rg ?_))))
    refine rp 1 rfl ?_
    refine Sn (Aw (Bk ?_))
    refine r_loop (S := Nat) (fun k => [(9, .int .i64 k)]) [(2, _), (3, _), (4, _)] (fun k => [Blk b4 24 [.int .i64 q.w, .int .i64 q.h, cv], Sl eB cv q.c, Sl eI dv d, F]) (fun k => k ≤ 4 ∧ ∀ j : Nat, j < k → ¬ refK q d c j) (fun k => 4 - k) (0) (And.intro rfl (And.intro rfl (And.intro rfl (trivial)))) (And.intro rfl (trivial)) (⟨by omega, fun j h => by omega⟩) ent ?_
    rintro k ⟨hk, hno⟩
    try dsimp only [ca, na, GridS.l, GridS.p, MeshS.l, MeshS.lF, MeshS.p, FinderS.l, FinderS.p, FinderS.lF, RouteS.l, RouteS.p, GridS.lT, RouteS.lT]
    refine Sq (Sq (Rg ?_))
    refine rp 1 rfl ?_
    refine Wp (po_le rfl rfl) ?_
    refine Sn (Aw ?_)
    refine Rc rfl ?_ ?_
    ·skip
     intro hk3
     have hst := (step_ok hc (show (0 : Int) ≤ k by omega) (by omega)).2
     refine Sk (Aw (Sq (Bk (Sq (Rg ?_)))))
     refine Wp (po_faddr rfl (by exact fc_field_24_0_0)) ?_
     refine Wp (po_load rfl (by exact fc_flat_3) (by rfl)) ?_
     refine Wp (po_faddr rfl (by exact fc_field_24_1_1)) ?_
     refine Wp (po_load rfl (by exact fc_flat_3) (by rfl)) ?_
     refine rp 2 rfl ?_
     refine Wc (co_fn rfl rfl) (ref_Step q.w q.h c k) ?_
     rintro v29 _ ⟨rfl, rfl⟩
     try dsimp only [ca, na, GridS.l, GridS.p, MeshS.l, MeshS.lF, MeshS.p, FinderS.l, FinderS.p, FinderS.lF, RouteS.l, RouteS.p, GridS.lT, RouteS.lT]
     refine rp 1 rfl ?_
     refine Sn (Aw (Sq ?_))
     refine r_ord [] _ [(0, 1), (1, 1), (2, 1), (3, 1), (4, 0), (5, 1), (6, 0), (7, 0), (8, 1), (9, 1), (10, 1), (11, 1), (12, 1), (13, 0), (14, 0), (15, 1), (16, 0), (17, 1), (18, 0), (19, 0), (20, 1), (21, 1), (22, 1), (23, 1), (24, 0), (25, 0), (26, 1), (27, 1)] fc_mixed (by kernel_rfl) (fun _ h => h) ?_
     refine Of rfl (po_move rfl) ?_
     refine Of rfl (po_ge rfl rfl) ?_
     by_cases h0 : 0 ≤ stepN q.w q.h c k
     ·skip
      refine o_fr rfl (po_bt (po_move rfl) (decide_eq_true h0)) rfl rfl rfl ?_
      have hol := ok.isc.1 (hst h0).1
      have hgo : gAt q.c (stepN q.w q.h c k) = q.c[(stepN q.w q.h c k).toNat]'(by omega) := gAt_get (by omega)
      have hgd : gAt d (stepN q.w q.h c k) = d[(stepN q.w q.h c k).toNat]'(by omega) := gAt_get (by omega)
      have hbo := ok.bt _ (List.getElem_mem (show (stepN q.w q.h c k).toNat < q.c.length by omega))
      have hbd := hdr _ (List.getElem_mem (show (stepN q.w q.h c k).toNat < d.length by omega))
      refine Of rfl (po_faddr rfl (by exact fc_field_24_2_2)) ?_
      refine Or rfl (po_load rfl (by exact fc_flat_22) (by rfl)) ?_
      refine Of rfl (po_move rfl) ?_
      refine Or rfl (po_iaddr rfl rfl (by exact fc_slice_22_5_1) (by first | omega | (simp <;> omega)) (by first | omega | (simp <;> omega))) ?_
      refine Or rfl (po_load_sl rfl (List.getElem?_eq_getElem (by first | omega | (simp <;> omega))) (by exact fc_flat_5) (by rfl)) ?_
      refine Of rfl (po_ne rfl rfl) ?_
      refine Of rfl (po_pick_t rfl rfl) ?_
      by_cases h1 : q.c[(stepN q.w q.h c k).toNat]'(by omega) ≠ 255
      ·skip
       refine o_fr rfl (po_bt (po_move rfl) (decide_eq_true h1)) rfl rfl rfl ?_
       refine Of rfl (po_move rfl) ?_
       refine Of rfl (po_move rfl) ?_
       refine Or rfl (po_iaddr rfl rfl (by exact fc_slice_35_3_1) (by first | omega | (simp <;> omega)) (by first | omega | (simp <;> omega))) ?_
       refine Or rfl (po_load_sl rfl (List.getElem?_eq_getElem (by first | omega | (simp <;> omega))) (by exact fc_flat_3) (by rfl)) ?_
       refine Of rfl (po_faddr rfl (by exact fc_field_24_2_2)) ?_
       refine Or rfl (po_load rfl (by exact fc_flat_22) (by rfl)) ?_
       refine Of rfl (po_move rfl) ?_
       refine Or rfl (po_iaddr rfl rfl (by exact fc_slice_22_5_1) (by first | omega | (simp <;> omega)) (by first | omega | (simp <;> omega))) ?_
       refine Or rfl (po_load_sl rfl (List.getElem?_eq_getElem (by first | omega | (simp <;> omega))) (by exact fc_flat_5) (by rfl)) ?_
       refine Of rfl (po_conv_w rfl (by exact fc_int_5_u8) (by exact fc_int_3_i64) (wrap_i64 _ (by omega) (by omega))) ?_
       refine Of rfl (po_add' rfl rfl (by omega) (by omega)) ?_
       refine Of rfl (po_move rfl) ?_
       refine Of rfl (po_move rfl) ?_
       refine Or rfl (po_iaddr rfl rfl (by exact fc_slice_35_3_1) (by first | omega | (simp <;> omega)) (by first | omega | (simp <;> omega))) ?_
       refine Or rfl (po_load_sl rfl (List.getElem?_eq_getElem (by first | omega | (simp <;> omega))) (by exact fc_flat_3) (by rfl)) ?_
       refine Of rfl (po_eq rfl rfl) ?_
       refine Of rfl (po_pick_t rfl rfl) ?_
       refine o_nil ?_
       refine Aw ?_
       refine Rc rfl ?_ ?_
       ·skip
        intro h2
        refine Sq (Rg ?_)
        refine rp 2 rfl ?_
        refine Sn (Aw (Rt (Br (Ar (Ar (Br (Ar ?_)))))))
        refine at_ret1 rfl (rv_tmp rfl) ⟨_, ⟨by rw [refDir, hgc, if_neg h5, if_neg h4, first4 hno (show k < 4 by omega) ⟨h0, by rw [hgo]; exact h1, by rw [hgd, hgo, hgc]; exact h2⟩], rfl⟩, ?_⟩
        try dsimp only [ca, na, GridS.l, GridS.p, MeshS.l, MeshS.lF, MeshS.p, FinderS.l, FinderS.p, FinderS.lF, RouteS.l, RouteS.p, GridS.lT, RouteS.lT]
        exact ent
       ·skip
        intro h2
        refine Sk (Bn (Aw (Rg ?_)))
        refine rp 1 rfl ?_
        refine Wp (po_add' rfl rfl (by omega) (by omega)) ?_
        refine rp 1 rfl ?_
        refine Sn ?_
        exact at_again (k + 1) (And.intro rfl (trivial)) (And.intro rfl (And.intro rfl (And.intro rfl (trivial)))) (⟨by omega, fun j hj => by by_cases e : j = k; (subst e; exact fun h => h2 (by have := h.2.2; rw [hgd, hgo, hgc] at this; exact this)); exact hno j (by omega)⟩) (by omega) ent
      ·skip
       refine o_fr rfl (po_bf (po_move rfl) (decide_eq_false h1)) rfl rfl rfl ?_
       refine o_no rfl rfl rfl rfl ?_
       refine o_no rfl rfl rfl rfl ?_
       refine o_nor rfl (by first | exact fun _ h => h | exact ent) rfl rfl rfl ?_
       refine o_nor rfl (by first | exact fun _ h => h | exact ent) rfl rfl rfl ?_
       refine o_no rfl rfl rfl rfl ?_
       refine o_nor rfl (by first | exact fun _ h => h | exact ent) rfl rfl rfl ?_
       refine o_no rfl rfl rfl rfl ?_
       refine o_nor rfl (by first | exact fun _ h => h | exact ent) rfl rfl rfl ?_
       refine o_nor rfl (by first | exact fun _ h => h | exact ent) rfl rfl rfl ?_
       refine o_no rfl rfl rfl rfl ?_
       refine o_no rfl rfl rfl rfl ?_
       refine o_no rfl rfl rfl rfl ?_
       refine o_no rfl rfl rfl rfl ?_
       refine o_nor rfl (by first | exact fun _ h => h | exact ent) rfl rfl rfl ?_
       refine o_nor rfl (by first | exact fun _ h => h | exact ent) rfl rfl rfl ?_
       refine o_no rfl rfl rfl rfl ?_
       refine Of rfl (po_pick_f rfl rfl) ?_
       refine o_nil ?_
       refine Aw ?_
       refine r_cond_f rfl rfl ?_
       refine Sk (Bn (Aw (Rg ?_)))
       refine rp 1 rfl ?_
       refine Wp (po_add' rfl rfl (by omega) (by omega)) ?_
       refine rp 1 rfl ?_
       refine Sn ?_
       exact at_again (k + 1) (And.intro rfl (trivial)) (And.intro rfl (And.intro rfl (And.intro rfl (trivial)))) (⟨by omega, fun j hj => by by_cases e : j = k; (subst e; exact fun h => h1 (by rw [← hgo]; exact h.2.1)); exact hno j (by omega)⟩) (by omega) ent
     ·skip
      refine o_fr rfl (po_bf (po_move rfl) (decide_eq_false h0)) rfl rfl rfl ?_
      refine o_no rfl rfl rfl rfl ?_
      refine o_nor rfl (by first | exact fun _ h => h | exact ent) rfl rfl rfl ?_
      refine o_no rfl rfl rfl rfl ?_
      refine o_nor rfl (by first | exact fun _ h => h | exact ent) rfl rfl rfl ?_
      refine o_nor rfl (by first | exact fun _ h => h | exact ent) rfl rfl rfl ?_
      refine o_no rfl rfl rfl rfl ?_
      refine Of rfl (po_pick_f rfl rfl) ?_
      refine Of rfl (po_move rfl) ?_
      refine o_no rfl rfl rfl rfl ?_
      refine o_no rfl rfl rfl rfl ?_
      refine o_nor rfl (by first | exact fun _ h => h | exact ent) rfl rfl rfl ?_
      refine o_nor rfl (by first | exact fun _ h => h | exact ent) rfl rfl rfl ?_
      refine o_no rfl rfl rfl rfl ?_
      refine o_nor rfl (by first | exact fun _ h => h | exact ent) rfl rfl rfl ?_
      refine o_no rfl rfl rfl rfl ?_
      refine o_nor rfl (by first | exact fun _ h => h | exact ent) rfl rfl rfl ?_
      refine o_nor rfl (by first | exact fun _ h => h | exact ent) rfl rfl rfl ?_
      refine o_no rfl rfl rfl rfl ?_
      refine o_no rfl rfl rfl rfl ?_
      refine o_no rfl rfl rfl rfl ?_
      refine o_no rfl rfl rfl rfl ?_
      refine o_nor rfl (by first | exact fun _ h => h | exact ent) rfl rfl rfl ?_
      refine o_nor rfl (by first | exact fun _ h => h | exact ent) rfl rfl rfl ?_
      refine o_no rfl rfl rfl rfl ?_
      refine Of rfl (po_pick_f rfl rfl) ?_
      refine o_nil ?_
      refine Aw ?_
      refine r_cond_f rfl rfl ?_
      refine Sk (Bn (Aw (Rg ?_)))
      refine rp 1 rfl ?_
      refine Wp (po_add' rfl rfl (by omega) (by omega)) ?_
      refine rp 1 rfl ?_
      refine Sn ?_
      exact at_again (k + 1) (And.intro rfl (trivial)) (And.intro rfl (And.intro rfl (And.intro rfl (trivial)))) (⟨by omega, fun j hj => by by_cases e : j = k; (subst e; exact fun h => h0 h.1); exact hno j (by omega)⟩) (by omega) ent
    ·skip
     intro hk3
     refine Ex' (Ax (Ax (Bh (Aw (Sq (Rg ?_))))))
     refine rp 1 rfl ?_
     refine Sn (Aw (Rt ?_))
     refine at_ret1 rfl (rv_tmp rfl) ⟨_, ⟨by rw [refDir, hgc, if_neg h5, if_neg h4, none4 (fun j hj => hno j (by omega))], rfl⟩, ?_⟩
     try dsimp only [ca, na, GridS.l, GridS.p, MeshS.l, MeshS.lF, MeshS.p, FinderS.l, FinderS.p, FinderS.lF, RouteS.l, RouteS.p, GridS.lT, RouteS.lT]
     exact ent
def fDist (q : GridS) (d : List Int) (i : Int) (n : Nat) : List Int := (List.range n).map fun (l : Nat) => gAt d (globalN q.w q.h i l)
def fDir (q : GridS) (t : Int) (d : List Int) (i : Int) (n : Nat) : List Int := (List.range n).map fun (l : Nat) => refDir q t d (globalN q.w q.h i l)
theorem ref_Field (q : GridS) (ok : GridOk q) (cv : Value) (t i : Int) (hi : IsS q.w q.h i) : Spec PP 26 #[mapV q.w q.h cv, .int .i64 t, .int .i64 i] [Sl eB cv q.c]
    (fun v M => ∃ d dv rv, v = .agg #[dv, rv] ∧ M = [Sl eB cv q.c, Sl eI dv (fDist q d i (secN q.w q.h i)), Sl eI rv (fDir q t d i (secN q.w q.h i))] ∧ ∀ c : Int, 0 ≤ c → c < q.c.length → gAt d c = flD q t c) := by
  have hz := size_le q.w q.h i
  have hb := mul_1k (a := (sizeN q.w q.h i).1) (b := (sizeN q.w q.h i).2) (by omega) (by omega) (by omega) (by omega)
  have hsn := secN_eq q.w q.h i
  refine spec_of (Go.Proofs.Tryz.func26) rfl rfl rfl (by exact fc_enters_26) ?_
  intro g F
  try dsimp only [ca, na, GridS.l, GridS.p, MeshS.l, MeshS.lF, MeshS.p, FinderS.l, FinderS.p, FinderS.lF, RouteS.l, RouteS.p, GridS.lT, RouteS.lT]
  refine Sq (Rg ?_)
  refine Wx (xo_box rfl rfl) ?_
  rintro _ _ ⟨b3, rfl, rfl⟩
  refine Wx (xo_alloc (by exact fc_zero_54)) ?_
  rintro _ _ ⟨b6, rfl, rfl⟩
  refine Sn (Aw (Sq (Rg ?_)))
  refine Wp (po_loada rfl (by exact fc_agg_24_3) (by rfl)) ?_
  refine rp 1 rfl ?_
  refine Wc (co_fn rfl rfl) (ref_Flat q ok cv t) ?_
  rintro v15 _ ⟨d, rfl, hdl, hd⟩
  try dsimp only [ca, na, GridS.l, GridS.p, MeshS.l, MeshS.lF, MeshS.p, FinderS.l, FinderS.p, FinderS.lF, RouteS.l, RouteS.p, GridS.lT, RouteS.lT]
  have hdr := flat_rng ok hdl hd
  refine rp 1 rfl ?_
  refine Sn (Aw (Sq (Rg ?_)))
  refine Wp (po_build1 rfl (by exact fc_zero_54) (by exact fc_places_54) (by exact fc_info_54) rfl) ?_
  refine Wx (xo_alloc (by exact fc_zero_54)) ?_
  rintro _ _ ⟨b8, rfl, rfl⟩
  refine Ws (so_storea1 rfl rfl (by exact fc_agg_54_2) rfl rfl) ?_
  refine Sn (Aw (Sq (Rg ?_)))
  refine Wp (po_faddr rfl (by exact fc_field_24_0_0)) ?_
  refine Wp (po_load rfl (by exact fc_flat_3) (by rfl)) ?_
  refine Wp (po_faddr rfl (by exact fc_field_24_1_1)) ?_
  refine Wp (po_load rfl (by exact fc_flat_3) (by rfl)) ?_
  refine rp 1 rfl ?_
  refine Wc (co_fn rfl rfl) (ref_Size q.w q.h i) ?_
  rintro v23 _ ⟨rfl, rfl⟩
  try dsimp only [ca, na, GridS.l, GridS.p, MeshS.l, MeshS.lF, MeshS.p, FinderS.l, FinderS.p, FinderS.lF, RouteS.l, RouteS.p, GridS.lT, RouteS.lT]
  refine rp 5 rfl ?_
  refine Sn (Aw (Sq (Sq (Rg ?_))))
  refine rp 1 rfl ?_
  refine Sn (Aw (Bk ?_))
  refine r_loop (S := Nat × Value × Value × List Int × List Int) (fun ⟨l, dv, rv, xs, zs⟩ => [(11, .int .i64 l)]) [(1, _), (2, _), (3, _), (6, _), (7, _), (8, _), (9, _), (10, _)] (fun ⟨l, dv, rv, xs, zs⟩ => [Blk b8 54 [dv, rv], Sl eI dv xs, Sl eI rv zs, Blk b3 24 [.int .i64 q.w, .int .i64 q.h, cv], Blk b6 54 [.slice none 0 0, .slice none 0 0], Sl eB cv q.c, Sl eI v15 d, F]) (fun ⟨l, dv, rv, xs, zs⟩ => (l : Int) ≤ (sizeN q.w q.h i).1 * (sizeN q.w q.h i).2 ∧ xs = fDist q d i l ∧ zs = fDir q t d i l) (fun ⟨l, dv, rv, xs, zs⟩ => ((sizeN q.w q.h i).1 * (sizeN q.w q.h i).2).toNat - l) ((0, .slice none 0 0, .slice none 0 0, [], [])) (And.intro rfl (And.intro rfl (And.intro rfl (And.intro rfl (And.intro rfl (And.intro rfl (And.intro rfl (And.intro rfl (trivial))))))))) (And.intro rfl (trivial)) (⟨by omega, rfl, rfl⟩) ent ?_
  rintro ⟨l, dv, rv, xs, zs⟩ ⟨hl, hxs, hzs⟩
  try dsimp only [ca, na, GridS.l, GridS.p, MeshS.l, MeshS.lF, MeshS.p, FinderS.l, FinderS.p, FinderS.lF, RouteS.l, RouteS.p, GridS.lT, RouteS.lT]
  have hxl : xs.length = l := by rw [hxs]; simp [fDist]
  have hzl : zs.length = l := by rw [hzs]; simp [fDir]
  refine Sq (Sq (Rg ?_))
  refine rp 3 rfl ?_
  refine Wp (po_mul' rfl rfl (by omega) (by omega)) ?_
  refine Wp (po_lt rfl rfl) ?_
  refine Sn (Aw ?_)
  refine Rc rfl ?_ ?_
  ·skip
   intro hlt
   have hgc := (global_is hi (show (0 : Int) ≤ l by omega) hlt).1
   have hgl := ok.isc.1 hgc
   have hgd : gAt d (globalN q.w q.h i l) = d[(globalN q.w q.h i l).toNat]'(by omega) := gAt_get (by omega)
   refine Sk (Aw ?_)
   refine r_joink (S := Value × Value) (fun ⟨dv2, rv2⟩ => []) [(1, _), (2, _), (3, _), (6, _), (7, _), (8, _), (9, _), (10, _), (11, _)] (fun ⟨dv2, rv2⟩ => [Blk b8 54 [dv2, rv2], Sl eI dv2 (xs ++ [gAt d (globalN q.w q.h i l)]), Sl eI rv2 (zs ++ [refDir q t d (globalN q.w q.h i l)]), Blk b3 24 [.int .i64 q.w, .int .i64 q.h, cv], Blk b6 54 [.slice none 0 0, .slice none 0 0], Sl eB cv q.c, Sl eI v15 d, F]) (fun ⟨dv2, rv2⟩ => True) (And.intro rfl (And.intro rfl (And.intro rfl (And.intro rfl (And.intro rfl (And.intro rfl (And.intro rfl (And.intro rfl (And.intro rfl (trivial)))))))))) ?_ ?_
   ·skip
    refine Bk (Sq (Rg ?_))
    refine Wp (po_faddr rfl (by exact fc_field_24_0_0)) ?_
    refine Wp (po_load rfl (by exact fc_flat_3) (by rfl)) ?_
    refine Wp (po_faddr rfl (by exact fc_field_24_1_1)) ?_
    refine Wp (po_load rfl (by exact fc_flat_3) (by rfl)) ?_
    refine rp 2 rfl ?_
    refine Wc (co_fn rfl rfl) (ref_Global q.w q.h i l) ?_
    rintro v39 _ ⟨rfl, rfl⟩
    try dsimp only [ca, na, GridS.l, GridS.p, MeshS.l, MeshS.lF, MeshS.p, FinderS.l, FinderS.p, FinderS.lF, RouteS.l, RouteS.p, GridS.lT, RouteS.lT]
    refine rp 1 rfl ?_
    refine Sn (Aw ?_)
    refine r_tree [18, 20] [Blk b3 24 [.int .i64 q.w, .int .i64 q.h, cv], Blk b8 54 [dv, rv], Sl eI v15 d] 21 fc_mixed (by kernel_rfl) ent ?_
    refine t_fr (i := 0) (by kernel_rfl) rfl (po_faddr rfl (by exact fc_field_54_0_0)) rfl rfl rfl ?_
    refine t_rd (i := 1) (by kernel_rfl) rfl (po_load rfl (by exact fc_flat_35) (by rfl)) (by first | exact fun _ h => h | exact ent) rfl rfl rfl ?_
    refine t_fr (i := 2) (by kernel_rfl) rfl (po_move rfl) rfl rfl rfl ?_
    refine t_fr (i := 3) (by kernel_rfl) rfl (po_move rfl) rfl rfl rfl ?_
    refine t_rd (i := 4) (by kernel_rfl) rfl (po_iaddr rfl rfl (by exact fc_slice_35_3_1) (by first | omega | (simp <;> omega)) (by first | omega | (simp <;> omega))) (by first | exact fun _ h => h | exact ent) rfl rfl rfl ?_
    refine t_rd (i := 5) (by kernel_rfl) rfl (po_load_sl rfl (List.getElem?_eq_getElem (by first | omega | (simp <;> omega))) (by exact fc_flat_3) (by rfl)) (by first | exact fun _ h => h | exact ent) rfl rfl rfl ?_
    refine t_fr (i := 8) (by kernel_rfl) rfl (po_faddr rfl (by exact fc_field_54_1_1)) rfl rfl rfl ?_
    refine t_rd (i := 9) (by kernel_rfl) rfl (po_load rfl (by exact fc_flat_35) (by rfl)) (by first | exact fun _ h => h | exact ent) rfl rfl rfl ?_
    refine t_rd (i := 10) (by kernel_rfl) rfl (po_loada rfl (by exact fc_agg_24_3) (by rfl)) (by first | exact fun _ h => h | exact ent) rfl rfl rfl ?_
    refine t_fr (i := 11) (by kernel_rfl) rfl (po_move rfl) rfl rfl rfl ?_
    refine t_fr (i := 12) (by kernel_rfl) rfl (po_move rfl) rfl rfl rfl ?_
    refine t_fr (i := 13) (by kernel_rfl) rfl (po_move rfl) rfl rfl rfl ?_
    refine t_st (i := 6) (by kernel_rfl) rfl (st_xo (xo_bslice eI [_] rfl (by exact fc_slice_35_3_1) (by exact fc_elem_3_1_8) ⟨rfl, rfl, trivial⟩ rfl (by decide)) rfl rfl rfl ?_)
    rintro v46 _ rfl
    refine ⟨fun _ => (by first | exact fun _ h => h | exact ent), ?_⟩
    refine t_st (i := 7) (by kernel_rfl) rfl (st_xo (xo_append rfl rfl (by exact fc_slice_35_3_1) (by exact fc_slice_35_3_1) (by exact fc_elem_3_1_8) (by first | omega | (simp <;> omega)) (by first | omega | (simp <;> omega))) rfl rfl rfl ?_)
    rintro v47 _ rfl
    refine ⟨fun _ => (by first | exact fun _ h => h | exact ent), ?_⟩
    refine t_fr (i := 17) (by kernel_rfl) rfl (po_faddr rfl (by exact fc_field_54_0_0)) rfl rfl rfl ?_
    refine t_st (i := 14) (by kernel_rfl) rfl (st_call (co_fn rfl rfl) (ref_Dir q ok cv v15 t (globalN q.w q.h i l) d hdl hdr hgc) (by infer_instance) rfl rfl rfl ?_)
    rintro v54 _ ⟨rfl, rfl⟩
    try dsimp only [ca, na, GridS.l, GridS.p, MeshS.l, MeshS.lF, MeshS.p, FinderS.l, FinderS.p, FinderS.lF, RouteS.l, RouteS.p, GridS.lT, RouteS.lT]
    refine ⟨fun _ => (by first | exact fun _ h => h | exact ent), ?_⟩
    refine t_st (i := 15) (by kernel_rfl) rfl (st_xo (xo_bslice eI [_] rfl (by exact fc_slice_35_3_1) (by exact fc_elem_3_1_8) ⟨rfl, rfl, trivial⟩ rfl (by decide)) rfl rfl rfl ?_)
    rintro v55 _ rfl
    refine ⟨fun _ => (by first | exact fun _ h => h | exact ent), ?_⟩
    refine t_st (i := 16) (by kernel_rfl) rfl (st_xo (xo_append rfl rfl (by exact fc_slice_35_3_1) (by exact fc_slice_35_3_1) (by exact fc_elem_3_1_8) (by first | omega | (simp <;> omega)) (by first | omega | (simp <;> omega))) rfl rfl rfl ?_)
    rintro v56 _ rfl
    refine ⟨fun _ => (by first | exact fun _ h => h | exact ent), ?_⟩
    refine t_st (i := 18) (by kernel_rfl) rfl (st_so (so_store1 rfl rfl (by exact fc_flat_35) rfl) rfl rfl ?_)
    refine ⟨fun h => late_no h (by kernel_rfl), ?_⟩
    refine t_fr (i := 19) (by kernel_rfl) rfl (po_faddr rfl (by exact fc_field_54_1_1)) rfl rfl rfl ?_
    refine t_st (i := 20) (by kernel_rfl) rfl (st_so (so_store1 rfl rfl (by exact fc_flat_35) rfl) rfl rfl ?_)
    refine ⟨fun h => late_no h (by kernel_rfl), ?_⟩
    refine t_nil (by kernel_rfl) ?_
    refine Bn ?_
    rw [← hgd]
    exact at_join ((v47, v56)) (trivial) (And.intro rfl (And.intro rfl (And.intro rfl (And.intro rfl (And.intro rfl (And.intro rfl (And.intro rfl (And.intro rfl (And.intro rfl (trivial)))))))))) (trivial) ent
   ·skip
    rintro ⟨dv2, rv2⟩ hI
    try dsimp only [ca, na, GridS.l, GridS.p, MeshS.l, MeshS.lF, MeshS.p, FinderS.l, FinderS.p, FinderS.lF, RouteS.l, RouteS.p, GridS.lT, RouteS.lT]
    refine Rg ?_
    refine rp 1 rfl ?_
    refine Wp (po_add' rfl rfl (by omega) (by omega)) ?_
    refine rp 1 rfl ?_
    refine Sn ?_
    exact at_again ((l + 1, dv2, rv2, xs ++ [gAt d (globalN q.w q.h i l)], zs ++ [refDir q t d (globalN q.w q.h i l)])) (And.intro rfl (trivial)) (And.intro rfl (And.intro rfl (And.intro rfl (And.intro rfl (And.intro rfl (And.intro rfl (And.intro rfl (And.intro rfl (trivial))))))))) (⟨by dsimp only; omega, by dsimp only; rw [hxs, fDist, fDist, rng_succ], by dsimp only; rw [hzs, fDir, fDir, rng_succ]⟩) (by dsimp only; omega) ent
  ·skip
   intro hlt
   refine Ex' (Ax (Ax (Bh (Aw (Sq (Rg ?_))))))
   refine Wp (po_loada rfl (by exact fc_agg_54_2) (by rfl)) ?_
   refine Ws (so_storea1 rfl rfl (by exact fc_agg_54_2) rfl rfl) ?_
   refine Sn (Aw (Rt ?_))
   have e1 : l = secN q.w q.h i := by omega
   subst e1
   subst hxs hzs
   refine at_ret1 rfl (rv_cella rfl (by exact fc_agg_54_2) (by rfl)) ⟨_, ⟨d, dv, rv, rfl, rfl, hd⟩, ?_⟩
   try dsimp only [ca, na, GridS.l, GridS.p, MeshS.l, MeshS.lF, MeshS.p, FinderS.l, FinderS.p, FinderS.lF, RouteS.l, RouteS.p, GridS.lT, RouteS.lT]
   exact ent
theorem ref_SameField (d1 r1 d2 r2 : Value) (a b c e : List Int) (ha : a.length ≤ 2^30) (hb : b.length ≤ 2^30) (h1 : a = c) (h2 : b = e) : Spec PP 25 #[.agg #[d1, r1], .agg #[d2, r2]] [Sl eI d1 a, Sl eI r1 b, Sl eI d2 c, Sl eI r2 e]
    (fun v M => v = .bool true ∧ M = [Sl eI d1 a, Sl eI r1 b, Sl eI d2 c, Sl eI r2 e]) := by
  refine spec_of (Go.Proofs.Tryz.func25) rfl rfl rfl (by exact fc_enters_25) ?_
  intro g F
  try dsimp only [ca, na, GridS.l, GridS.p, MeshS.l, MeshS.lF, MeshS.p, FinderS.l, FinderS.p, FinderS.lF, RouteS.l, RouteS.p, GridS.lT, RouteS.lT]
  refine Sq (Rg ?_)
  refine Wx (xo_box rfl rfl) ?_
  rintro _ _ ⟨b2, rfl, rfl⟩
  refine Wx (xo_box rfl rfl) ?_
  rintro _ _ ⟨b3, rfl, rfl⟩
  refine rp 1 rfl ?_
  refine Sn (Aw (Sq (Rg ?_)))
  refine Wp (po_faddr rfl (by exact fc_field_54_0_0)) ?_
  refine Wp (po_load rfl (by exact fc_flat_35) (by rfl)) ?_
  refine Wp (po_faddr rfl (by exact fc_field_54_0_0)) ?_
  refine Wp (po_load rfl (by exact fc_flat_35) (by rfl)) ?_
  refine Wc (co_fn rfl rfl) (ref_Ints d1 d2 a c ha) ?_
  rintro v9 _ ⟨rfl, rfl⟩
  try dsimp only [ca, na, GridS.l, GridS.p, MeshS.l, MeshS.lF, MeshS.p, FinderS.l, FinderS.p, FinderS.lF, RouteS.l, RouteS.p, GridS.lT, RouteS.lT]
  refine Wp (po_bt (po_move rfl) (decide_eq_true (h1))) ?_
  refine Wp (po_faddr rfl (by exact fc_field_54_1_1)) ?_
  refine Wp (po_load rfl (by exact fc_flat_35) (by rfl)) ?_
  refine Wp (po_faddr rfl (by exact fc_field_54_1_1)) ?_
  refine Wp (po_load rfl (by exact fc_flat_35) (by rfl)) ?_
  refine Wc (co_fn rfl rfl) (ref_Ints r1 r2 b e hb) ?_
  rintro v15 _ ⟨rfl, rfl⟩
  try dsimp only [ca, na, GridS.l, GridS.p, MeshS.l, MeshS.lF, MeshS.p, FinderS.l, FinderS.p, FinderS.lF, RouteS.l, RouteS.p, GridS.lT, RouteS.lT]
  refine rp 2 rfl ?_
  refine Sn (Aw (Rt ?_))
  refine at_ret1 rfl (rv_tmp rfl) ⟨_, ⟨by rw [decide_eq_true h2], rfl⟩, ?_⟩
  try dsimp only [ca, na, GridS.l, GridS.p, MeshS.l, MeshS.lF, MeshS.p, FinderS.l, FinderS.p, FinderS.lF, RouteS.l, RouteS.p, GridS.lT, RouteS.lT]
  exact ent
theorem refsd_may {t : Tile} (hm : MayT t) {s : Seed} (h : RefSd t s) : MaySd t s := by
  obtain ⟨hc, ho, hk, hs, hn⟩ := h
  refine ⟨hc.1, hc.2, ho, hk.1, hk.2, ?_⟩
  have h1 := hm.1
  have h2 := hm.2.1
  unfold Sized at h1 h2
  have hlen := hm.2.2.1
  have hic : IsC t.w t.h s.cell := ⟨⟨by omega, by omega⟩, hc.1, by omega⟩
  have hxy := isc_xy hic
  have hst := (step_ok hic hs.1 hs.2).1
  unfold OutS
  by_cases h4 : s.side = 4
  · rw [h4]; simp
  · have hneg := hn h4
    have hno : ¬ ((0 ≤ s.cell % t.w + dx s.side ∧ s.cell % t.w + dx s.side < t.w) ∧ (0 ≤ s.cell / t.w + dy s.side ∧ s.cell / t.w + dy s.side < t.h)) := fun h => by have := hst.2 h; omega
    have : s.side = 0 ∨ s.side = 1 ∨ s.side = 2 ∨ s.side = 3 := by omega
    rcases this with e | e | e | e <;> rw [e] at hno ⊢ <;> simp [dx, dy] at hno ⊢ <;> omega
theorem dist_fDist {g : GridS} {i : Int} {d D : List Int} (ok : GridOk g) {t : Int} (hi : IsS g.w g.h i) (hdl : d.length = secN g.w g.h i) (h : ∀ l : Int, 0 ≤ l → l < d.length → gAt d l = flD g t (globalN g.w g.h i l)) (hD : ∀ c : Int, 0 ≤ c → c < g.c.length → gAt D c = flD g t c) : d = fDist g D i (secN g.w g.h i) := by
  have hsn := secN_eq g.w g.h i
  apply List.ext_getElem
  · simp [fDist, hdl]
  · intro l h1 h2
    have hgc := ok.isc.1 (global_is hi (show (0 : Int) ≤ l by omega) (by omega)).1
    rw [← gAt_nat h1, h l (by omega) (by omega), ← hD _ hgc.1 hgc.2]
    simp [fDist]
theorem law16_Fields (K : HP) (w h : Int) (cv : Value) (c : List Int) [Rd [K] cv Int eB c] (hc : ∀ x ∈ c, 0 ≤ x ∧ x ≤ 255) (goal sector : Int) :
    Spec PP 6 #[.int .i64 w, .int .i64 h, cv, .int .i64 goal, .int .i64 sector] [K] (fun v M => v = .bool true ∧ M = [K]) := by
  refine spec_of (Go.Proofs.Tryz.func6) rfl rfl rfl (by exact fc_enters_6) ?_
  intro g F
  try dsimp only [ca, na, GridS.l, GridS.p, MeshS.l, MeshS.lF, MeshS.p, FinderS.l, FinderS.p, FinderS.lF, RouteS.l, RouteS.p, GridS.lT, RouteS.lT]
  refine Sq (Rg ?_)
  refine rp 1 rfl ?_
  refine Sn (Aw (Sq (Rg ?_)))
  refine rp 3 rfl ?_
  refine Wc (co_fn rfl rfl) (ref_Made K w h cv c hc) ?_
  rintro v23 _ ⟨W, H, mv, C, rfl, rfl, hm⟩
  try dsimp only [ca, na, GridS.l, GridS.p, MeshS.l, MeshS.lF, MeshS.p, FinderS.l, FinderS.p, FinderS.lF, RouteS.l, RouteS.p, GridS.lT, RouteS.lT]
  have hmm := may_mul hm.may.1
  have hml := hm.len
  have hcn := made_cnt hm
  refine Wx (xo_alloc (by exact fc_zero_24)) ?_
  rintro _ _ ⟨b11, rfl, rfl⟩
  refine Ws (so_storea1 rfl rfl (by exact fc_agg_24_3) rfl rfl) ?_
  refine Sn (Aw (Sq (Rg ?_)))
  refine rp 1 rfl ?_
  refine Wp (po_faddr rfl (by exact fc_field_24_2_2)) ?_
  refine Wp (po_load rfl (by exact fc_flat_22) (by rfl)) ?_
  refine Wp (po_len rfl (by exact fc_slice_22_5_1)) ?_
  refine Wp (po_sub' rfl rfl (by omega) (by omega)) ?_
  refine Wc (co_fn rfl rfl) (ref_Within goal 0 ((C.length : Int) - 1) (by omega) (by omega) (by omega)) ?_
  rintro v29 _ ⟨rfl, rfl⟩
  try dsimp only [ca, na, GridS.l, GridS.p, MeshS.l, MeshS.lF, MeshS.p, FinderS.l, FinderS.p, FinderS.lF, RouteS.l, RouteS.p, GridS.lT, RouteS.lT]
  have htc := made_cell hm goal
  generalize 0 + goal % ((C.length : Int) - 1 - 0 + 1) = t at htc
  refine rp 1 rfl ?_
  refine Sn (Aw (Sq (Rg ?_)))
  refine Wp (po_loada rfl (by exact fc_agg_24_3) (by rfl)) ?_
  refine rp 1 rfl ?_
  refine Wc (co_fn rfl rfl) (law16_found W H mv C hm t htc) ?_
  rintro v33 _ ⟨f, r, rfl, rfl, ok, hw, hh, hcc, hep, hre, hg, hro, hvs⟩
  try dsimp only [ca, na, GridS.l, GridS.p, MeshS.l, MeshS.lF, MeshS.p, FinderS.l, FinderS.p, FinderS.lF, RouteS.l, RouteS.p, GridS.lT, RouteS.lT]
  subst hw hh hcc hg
  refine rp 5 rfl ?_
  refine Sn (Aw (Sq (Sq (Rg ?_))))
  refine rp 1 rfl ?_
  refine Wp (po_peq rfl rfl (by exact fc_ptr_27)) ?_
  refine Sn (Aw ?_)
  first | refine r_dec_f rfl (by simp) ?_ | refine r_nd_f rfl (by simp) ?_ | refine r_cond_f rfl (by simp) ?_
  refine Sk (Aw (Sq (Rg ?_)))
  refine rp 1 rfl ?_
  refine Wp (po_faddr rfl (by exact fc_field_24_0_0)) ?_
  refine Wp (po_load rfl (by exact fc_flat_3) (by rfl)) ?_
  refine Wp (po_faddr rfl (by exact fc_field_24_1_1)) ?_
  refine Wp (po_load rfl (by exact fc_flat_3) (by rfl)) ?_
  refine Wc (co_fn rfl rfl) (ref_Count f.m.g.w f.m.g.h) ?_
  rintro v43 _ ⟨rfl, rfl⟩
  try dsimp only [ca, na, GridS.l, GridS.p, MeshS.l, MeshS.lF, MeshS.p, FinderS.l, FinderS.p, FinderS.lF, RouteS.l, RouteS.p, GridS.lT, RouteS.lT]
  refine Wp (po_sub' rfl rfl (by omega) (by omega)) ?_
  refine Wc (co_fn rfl rfl) (ref_Within sector 0 ((secsN f.m.g.w f.m.g.h).1 * (secsN f.m.g.w f.m.g.h).2 - 1) (by omega) (by omega) (by omega)) ?_
  rintro v45 _ ⟨rfl, rfl⟩
  try dsimp only [ca, na, GridS.l, GridS.p, MeshS.l, MeshS.lF, MeshS.p, FinderS.l, FinderS.p, FinderS.lF, RouteS.l, RouteS.p, GridS.lT, RouteS.lT]
  have his := made_sec hm sector
  generalize 0 + sector % ((secsN f.m.g.w f.m.g.h).1 * (secsN f.m.g.w f.m.g.h).2 - 1 - 0 + 1) = i at his
  refine rp 1 rfl ?_
  refine Sn (Aw (Sq (Rg ?_)))
  refine rp 2 rfl ?_
  refine Wc (co_fn rfl rfl) (grid_Tile f.m.g i ok his) ?_
  rintro v49 _ ⟨tc, rfl, rfl⟩
  try dsimp only [ca, na, GridS.l, GridS.p, MeshS.l, MeshS.lF, MeshS.p, FinderS.l, FinderS.p, FinderS.lF, RouteS.l, RouteS.p, GridS.lT, RouteS.lT]
  have hmt := tile_may ok his
  have hmay : ∀ ys : List Seed, ys.Perm (seedsG f.m.g.w f.m.g.h f.m.g.c (atN r) r.goal i) → ∀ s ∈ ys, MaySd (tileN f.m.g i) s := fun ys hp s h => refsd_may hmt (seedsG_may ok (fun c h2 => atN_le ok hro c h2) his htc (hp.mem_iff.1 h))
  refine rp 3 rfl ?_
  refine Wx (xo_alloc (by exact fc_zero_41)) ?_
  rintro _ _ ⟨b16, rfl, rfl⟩
  refine Ws (so_storea1 rfl rfl (by exact fc_agg_41_3) rfl rfl) ?_
  refine rp 1 rfl ?_
  refine Sn (Aw ?_)
  refine r_joink (S := Nat × List Seed × Value × List Int × Value) (fun ⟨b, ys, dv, d, rv⟩ => [(18, .pointer (some ⟨b, 0, none⟩)), (19, .int .i64 0)]) [(11, _), (12, _), (15, _), (17, _)] (fun ⟨b, ys, dv, d, rv⟩ => [Blk b 54 [dv, rv], Sl eI dv d, Sl eI rv (dirsTo (tileN f.m.g i) ys d (tileN f.m.g i).c.length), Blk b11 24 [.int .i64 f.m.g.w, .int .i64 f.m.g.h, mv], Sl eB mv f.m.g.c, K, F]) (fun ⟨b, ys, dv, d, rv⟩ => ys.Perm (seedsG f.m.g.w f.m.g.h f.m.g.c (atN r) r.goal i) ∧ d.length = (tileN f.m.g i).c.length ∧ IsDist (tileN f.m.g i).w (tileN f.m.g i).h (tileN f.m.g i).c (srcS ys) (dF d)) (And.intro rfl (And.intro rfl (And.intro rfl (And.intro rfl (trivial))))) ?_ ?_
  ·skip
   refine r_tree [10] _ 12 fc_mixed (by kernel_rfl) (fun _ h => h) ?_
   refine t_rd (i := 0) (by kernel_rfl) rfl (po_loada rfl (by exact fc_agg_41_3) (by rfl)) (by first | exact fun _ h => h | exact ent) rfl rfl rfl ?_
   refine t_fr (i := 1) (by kernel_rfl) rfl (po_move rfl) rfl rfl rfl ?_
   refine t_fr (i := 2) (by kernel_rfl) rfl (po_move rfl) rfl rfl rfl ?_
   refine t_fr (i := 3) (by kernel_rfl) rfl (po_move rfl) rfl rfl rfl ?_
   refine t_br2 (i := 4) (j := 9) (by kernel_rfl) ?_ ?_
   ·skip
    refine tb rfl (st_call (co_fn rfl rfl) (inject_Seeds f.m.g ok r hro.rng (by rw [hre, hep]) htc i) (by infer_instance) rfl rfl rfl ?_)
    rintro v57 _ ⟨ys, rfl, hp, hs⟩
    try dsimp only [ca, na, GridS.l, GridS.p, MeshS.l, MeshS.lF, MeshS.p, FinderS.l, FinderS.p, FinderS.lF, RouteS.l, RouteS.p, GridS.lT, RouteS.lT]
    refine ⟨fun _ => (by first | exact fun _ h => h | exact ent), ?_⟩
    refine t_br2 (i := 5) (j := 9) (by kernel_rfl) ?_ ?_
    ·skip
     refine tb rfl (st_call (co_fn rfl rfl) (steer_Field tc v57 (tileN f.m.g i) ys ⟨hmt, hmay ys hp⟩ (tile_mem ok his) (hp.nodup_iff.2 (seedsG_nodup ok his)) (by have := hp.length_eq; have := seedsG_len f.m.g.w f.m.g.h f.m.g.c (atN r) r.goal i; omega)) (by infer_instance) rfl rfl rfl ?_)
     rintro v58 _ ⟨dv, d, rv, rfl, rfl, hdl, hd⟩
     try dsimp only [ca, na, GridS.l, GridS.p, MeshS.l, MeshS.lF, MeshS.p, FinderS.l, FinderS.p, FinderS.lF, RouteS.l, RouteS.p, GridS.lT, RouteS.lT]
     refine ⟨fun _ => (by first | exact fun _ h => h | exact ent), ?_⟩
     refine t_fr (i := 6) (by kernel_rfl) rfl (po_move rfl) rfl rfl rfl ?_
     refine t_fr (i := 7) (by kernel_rfl) rfl (po_extract rfl rfl) rfl rfl rfl ?_
     refine t_fr (i := 8) (by kernel_rfl) rfl (po_extract rfl rfl) rfl rfl rfl ?_
     refine t_st (i := 9) (by kernel_rfl) rfl (st_xo (xo_alloc (by exact fc_zero_54)) rfl rfl rfl ?_)
     rintro _ _ ⟨b18, rfl, rfl⟩
     refine ⟨fun _ => (by first | exact fun _ h => h | exact ent), ?_⟩
     refine t_st (i := 10) (by kernel_rfl) rfl (st_so (so_storea1 rfl rfl (by exact fc_agg_54_2) rfl rfl) rfl rfl ?_)
     refine ⟨fun h => late_no h (by kernel_rfl), ?_⟩
     refine t_fr (i := 11) (by kernel_rfl) rfl (po_assign rfl) rfl rfl rfl ?_
     refine t_nil (by kernel_rfl) ?_
     exact at_join ((b18, ys, dv, d, rv)) (And.intro rfl (And.intro rfl (trivial))) (And.intro rfl (And.intro rfl (And.intro rfl (And.intro rfl (trivial))))) (⟨hp, hdl, hd⟩) ent
    ·skip
     refine tb rfl (st_xo (xo_alloc (by exact fc_zero_54)) rfl rfl rfl ?_)
     rintro _ _ ⟨b18, rfl, rfl⟩
     refine ⟨fun _ => (by first | exact fun _ h => h | exact ent), ?_⟩
     refine t_st (i := 5) (by kernel_rfl) rfl (st_call (co_fn rfl rfl) (steer_Field tc v57 (tileN f.m.g i) ys ⟨hmt, hmay ys hp⟩ (tile_mem ok his) (hp.nodup_iff.2 (seedsG_nodup ok his)) (by have := hp.length_eq; have := seedsG_len f.m.g.w f.m.g.h f.m.g.c (atN r) r.goal i; omega)) (by infer_instance) rfl rfl rfl ?_)
     rintro v58 _ ⟨dv, d, rv, rfl, rfl, hdl, hd⟩
     try dsimp only [ca, na, GridS.l, GridS.p, MeshS.l, MeshS.lF, MeshS.p, FinderS.l, FinderS.p, FinderS.lF, RouteS.l, RouteS.p, GridS.lT, RouteS.lT]
     refine ⟨fun _ => (by first | exact fun _ h => h | exact ent), ?_⟩
     refine t_fr (i := 6) (by kernel_rfl) rfl (po_move rfl) rfl rfl rfl ?_
     refine t_fr (i := 7) (by kernel_rfl) rfl (po_extract rfl rfl) rfl rfl rfl ?_
     refine t_fr (i := 8) (by kernel_rfl) rfl (po_extract rfl rfl) rfl rfl rfl ?_
     refine t_st (i := 10) (by kernel_rfl) rfl (st_so (so_storea1 rfl rfl (by exact fc_agg_54_2) rfl rfl) rfl rfl ?_)
     refine ⟨fun h => late_no h (by kernel_rfl), ?_⟩
     refine t_fr (i := 11) (by kernel_rfl) rfl (po_assign rfl) rfl rfl rfl ?_
     refine t_nil (by kernel_rfl) ?_
     exact at_join ((b18, ys, dv, d, rv)) (And.intro rfl (And.intro rfl (trivial))) (And.intro rfl (And.intro rfl (And.intro rfl (And.intro rfl (trivial))))) (⟨hp, hdl, hd⟩) ent
   ·skip
    refine tb rfl (st_xo (xo_alloc (by exact fc_zero_54)) rfl rfl rfl ?_)
    rintro _ _ ⟨b18, rfl, rfl⟩
    refine ⟨fun _ => (by first | exact fun _ h => h | exact ent), ?_⟩
    refine t_st (i := 4) (by kernel_rfl) rfl (st_call (co_fn rfl rfl) (inject_Seeds f.m.g ok r hro.rng (by rw [hre, hep]) htc i) (by infer_instance) rfl rfl rfl ?_)
    rintro v57 _ ⟨ys, rfl, hp, hs⟩
    try dsimp only [ca, na, GridS.l, GridS.p, MeshS.l, MeshS.lF, MeshS.p, FinderS.l, FinderS.p, FinderS.lF, RouteS.l, RouteS.p, GridS.lT, RouteS.lT]
    refine ⟨fun _ => (by first | exact fun _ h => h | exact ent), ?_⟩
    refine t_st (i := 5) (by kernel_rfl) rfl (st_call (co_fn rfl rfl) (steer_Field tc v57 (tileN f.m.g i) ys ⟨hmt, hmay ys hp⟩ (tile_mem ok his) (hp.nodup_iff.2 (seedsG_nodup ok his)) (by have := hp.length_eq; have := seedsG_len f.m.g.w f.m.g.h f.m.g.c (atN r) r.goal i; omega)) (by infer_instance) rfl rfl rfl ?_)
    rintro v58 _ ⟨dv, d, rv, rfl, rfl, hdl, hd⟩
    try dsimp only [ca, na, GridS.l, GridS.p, MeshS.l, MeshS.lF, MeshS.p, FinderS.l, FinderS.p, FinderS.lF, RouteS.l, RouteS.p, GridS.lT, RouteS.lT]
    refine ⟨fun _ => (by first | exact fun _ h => h | exact ent), ?_⟩
    refine t_fr (i := 6) (by kernel_rfl) rfl (po_move rfl) rfl rfl rfl ?_
    refine t_fr (i := 7) (by kernel_rfl) rfl (po_extract rfl rfl) rfl rfl rfl ?_
    refine t_fr (i := 8) (by kernel_rfl) rfl (po_extract rfl rfl) rfl rfl rfl ?_
    refine t_st (i := 10) (by kernel_rfl) rfl (st_so (so_storea1 rfl rfl (by exact fc_agg_54_2) rfl rfl) rfl rfl ?_)
    refine ⟨fun h => late_no h (by kernel_rfl), ?_⟩
    refine t_fr (i := 11) (by kernel_rfl) rfl (po_assign rfl) rfl rfl rfl ?_
    refine t_nil (by kernel_rfl) ?_
    exact at_join ((b18, ys, dv, d, rv)) (And.intro rfl (And.intro rfl (trivial))) (And.intro rfl (And.intro rfl (And.intro rfl (And.intro rfl (trivial))))) (⟨hp, hdl, hd⟩) ent
  ·skip
   rintro ⟨b, ys, dv, d, rv⟩ ⟨hp, hdl, hd⟩
   try dsimp only [ca, na, GridS.l, GridS.p, MeshS.l, MeshS.lF, MeshS.p, FinderS.l, FinderS.p, FinderS.lF, RouteS.l, RouteS.p, GridS.lT, RouteS.lT]
   have hfed := fed_of ok hro his htc hp
   have hdist := field_dist ok his hfed hdl hd
   have hsn := secN_eq f.m.g.w f.m.g.h i
   have htl := tile_len ok his
   have hsl : (tileN f.m.g i).c.length = secN f.m.g.w f.m.g.h i := by omega
   have hsz := size_le f.m.g.w f.m.g.h i
   have hs256 := Int.mul_le_mul hsz.1.2 hsz.2.2 hsz.2.1 (show (0 : Int) ≤ 16 by decide)
   refine Sq ?_
   refine r_ord [] _ [(0, 2), (1, 1), (2, 1), (3, 1), (4, 1), (5, 1), (6, 1), (7, 1), (8, 1), (9, 0), (10, 0), (11, 1), (12, 1), (13, 2), (14, 2), (15, 1), (16, 1)] fc_mixed (by kernel_rfl) (fun _ h => h) ?_
   refine o_st rfl (st_call (co_fn rfl rfl) (law16_told) (by infer_instance) rfl rfl rfl ?_)
   rintro v61 _ ⟨rfl, rfl⟩
   try dsimp only [ca, na, GridS.l, GridS.p, MeshS.l, MeshS.lF, MeshS.p, FinderS.l, FinderS.p, FinderS.lF, RouteS.l, RouteS.p, GridS.lT, RouteS.lT]
   refine ⟨fun _ => (by first | exact fun _ h => h | exact ent), ?_⟩
   refine Of rfl (po_bt (po_move rfl) (rfl)) ?_
   refine Of rfl (po_move rfl) ?_
   refine Of rfl (po_pick_t rfl rfl) ?_
   refine Of rfl (po_bt (po_move rfl) (rfl)) ?_
   refine Of rfl (po_move rfl) ?_
   refine Of rfl (po_eq rfl rfl) ?_
   refine Of rfl (po_pick_t rfl rfl) ?_
   refine Of rfl (po_bt (po_move rfl) (decide_eq_true (rfl))) ?_
   refine Or rfl (po_loada rfl (by exact fc_agg_54_2) (by rfl)) ?_
   refine Or rfl (po_loada rfl (by exact fc_agg_24_3) (by rfl)) ?_
   refine Of rfl (po_move rfl) ?_
   refine Of rfl (po_move rfl) ?_
   refine o_st rfl (st_call (co_fn rfl rfl) (ref_Field f.m.g ok mv r.goal i his) (by infer_instance) rfl rfl rfl ?_)
   rintro v74 _ ⟨D, dv2, rv2, rfl, rfl, hD⟩
   try dsimp only [ca, na, GridS.l, GridS.p, MeshS.l, MeshS.lF, MeshS.p, FinderS.l, FinderS.p, FinderS.lF, RouteS.l, RouteS.p, GridS.lT, RouteS.lT]
   refine ⟨fun _ => (by first | exact fun _ h => h | exact ent), ?_⟩
   refine o_st rfl (st_call (co_fn rfl rfl) (ref_SameField dv rv dv2 rv2 d (dirsTo (tileN f.m.g i) ys d (tileN f.m.g i).c.length) (fDist f.m.g D i (secN f.m.g.w f.m.g.h i)) (fDir f.m.g r.goal D i (secN f.m.g.w f.m.g.h i)) (by rw [hdl, hsl]; omega) (by rw [dirsTo, List.length_map, List.length_range, hsl]; omega) (dist_fDist ok his (by omega) hdist hD) (by
      rw [hsl]
      apply List.map_congr_left
      intro l hl
      have := List.mem_range.1 hl
      exact field_dir ok his hfed hdl hd hD (by omega) (by omega))) (by infer_instance) rfl rfl rfl ?_)
   rintro v75 _ ⟨rfl, rfl⟩
   try dsimp only [ca, na, GridS.l, GridS.p, MeshS.l, MeshS.lF, MeshS.p, FinderS.l, FinderS.p, FinderS.lF, RouteS.l, RouteS.p, GridS.lT, RouteS.lT]
   refine ⟨fun _ => (by first | exact fun _ h => h | exact ent), ?_⟩
   refine Of rfl (po_pick_t rfl rfl) ?_
   refine Of rfl (po_assign rfl) ?_
   refine o_nil ?_
   refine Aw (Rt ?_)
   refine at_ret1 rfl (rv_tmp rfl) ⟨_, ⟨rfl, rfl⟩, ?_⟩
   try dsimp only [ca, na, GridS.l, GridS.p, MeshS.l, MeshS.lF, MeshS.p, FinderS.l, FinderS.p, FinderS.lF, RouteS.l, RouteS.p, GridS.lT, RouteS.lT]
   exact ent
end Hd
end
