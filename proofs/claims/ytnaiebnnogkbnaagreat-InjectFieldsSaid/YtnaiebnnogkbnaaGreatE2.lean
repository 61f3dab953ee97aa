/- Contracts of functions of the program, and the laws of memory that they are proved with: part 2. -/
import Derived.Test.YtnaiebnnogkbnaaGreatE1
set_option linter.unusedVariables false
set_option linter.unusedSimpArgs false
section
namespace Hd
set_option maxRecDepth 100000
open Go

structure HelmS where
  b : Nat
  t : Tile
  tc : Value
  lv : Value
  l : List Seed
  dv : Value
  d : List Int
abbrev HelmS.m (s : HelmS) : List HP := [Blk s.b 91 [.int .i64 s.t.w, .int .i64 s.t.h, s.tc, s.lv, s.dv], Sl eB s.tc s.t.c, Sl eS s.lv s.l, Sl eI s.dv s.d]
abbrev HelmS.p (s : HelmS) : Value := .pointer (some ⟨s.b, 0, none⟩)
structure HelmOk (s : HelmS) : Prop where
  may : MayT s.t
  bt : ∀ x ∈ s.t.c, 1 ≤ x ∧ x ≤ 255
  dl : s.d.length = s.t.c.length
  dr : ∀ x ∈ s.d, 0 ≤ x ∧ x ≤ 1099511627776
  ll : s.l.length ≤ 2^20
theorem HelmOk.big {s : HelmS} (k : HelmOk s) : May s.t.w s.t.h ∧ (s.t.c.length : Int) = s.t.w * s.t.h ∧ s.t.c.length ≤ 256 := by
  have h1 := k.may.1
  have h2 := k.may.2.1
  unfold Sized at h1 h2
  have hmul : s.t.w * s.t.h ≤ 16 * 16 := Int.mul_le_mul h1.2 h2.2 (by omega) (by decide)
  have := k.may.2.2.1
  exact ⟨by omega, this, by omega⟩

theorem helm_near (s : HelmS) (ok : HelmOk s) (c k : Int) (hc : 0 ≤ c ∧ c < s.t.c.length) (hk : 0 ≤ k ∧ k < 4) : Spec PP 144 #[s.p, .int .i64 c, .int .i64 k] s.m (fun v M => v = .int .i64 (stepN s.t.w s.t.h c k) ∧ M = s.m) := by
  obtain ⟨hm, hlen, hsm⟩ := ok.big
  have hic : IsC s.t.w s.t.h c := ⟨hm, hc.1, by rw [← hlen]; exact hc.2⟩
  obtain ⟨s0, s1, s2, s3⟩ := step_val hic
  have hxy := isc_xy hic
  refine spec_of (Go.Proofs.Tryz.func144) rfl rfl rfl (by exact fc_enters_144) ?_
  intro g F
  try dsimp only [ca, na, HelmS.m, HelmS.p]
  refine Sq (Rg ?_)
  refine rp 1 rfl ?_
  refine Sn (Aw (Sq ?_))
  refine r_ord [] _ [(0, 1), (1, 1), (2, 1), (3, 1), (4, 1), (5, 0), (6, 1), (7, 1), (8, 1), (9, 1), (10, 1), (11, 1), (12, 0), (13, 1), (14, 1), (15, 1)] fc_mixed (by kernel_rfl) (fun _ h => h) ?_
  refine Of rfl (po_move rfl) ?_
  refine Of rfl (po_move rfl) ?_
  refine Of rfl (po_nil rfl) ?_
  refine Of rfl (po_faddr rfl (by exact fc_field_91_0_0)) ?_
  refine Of rfl (po_faddr rfl (by exact fc_field_41_0_0)) ?_
  refine Or rfl (po_load rfl (by exact fc_flat_3) (by rfl)) ?_
  refine Of rfl (po_rem' rfl rfl (by omega) (by omega)) ?_
  refine Of rfl (po_move rfl) ?_
  refine Of rfl (po_move rfl) ?_
  refine Of rfl (po_nil rfl) ?_
  refine Of rfl (po_faddr rfl (by exact fc_field_91_0_0)) ?_
  refine Of rfl (po_faddr rfl (by exact fc_field_41_0_0)) ?_
  refine Or rfl (po_load rfl (by exact fc_flat_3) (by rfl)) ?_
  refine Of rfl (po_quo' rfl rfl (by omega) (by omega) (by omega)) ?_
  refine Of rfl (po_assign rfl) ?_
  refine Of rfl (po_assign rfl) ?_
  refine o_nil ?_
  refine Aw (Sq (Bk (Sq (Rg ?_))))
  refine rp 1 rfl ?_
  refine Wp (po_eq rfl rfl) ?_
  by_cases h0 : k = 0
  ·skip
   refine ws (st_po (po_bt (po_move rfl) (decide_eq_true h0)) rfl rfl rfl ?_)
   refine rp 1 rfl ?_
   refine Wp (po_gt rfl rfl) ?_
   refine rp 2 rfl ?_
   refine Sn (Aw ?_)
   refine Rc rfl ?_ ?_
   ·skip
    intro hy
    refine Sq (Rg ?_)
    refine rp 3 rfl ?_
    refine Wp (po_faddr rfl (by exact fc_field_91_0_0)) ?_
    refine Wp (po_faddr rfl (by exact fc_field_41_0_0)) ?_
    refine Wp (po_load rfl (by exact fc_flat_3) (by rfl)) ?_
    refine Wp (po_sub' rfl rfl (by omega) (by omega)) ?_
    refine rp 1 rfl ?_
    refine Sn (Aw (Rt (Br (Ar ?_))))
    refine at_ret1 rfl (rv_tmp rfl) ⟨_, ⟨by rw [h0, s0, if_pos hy], rfl⟩, ?_⟩
    try dsimp only [ca, na, HelmS.m, HelmS.p]
    exact ent
   ·skip
    intro hy
    refine Sq (Rg ?_)
    refine rp 1 rfl ?_
    refine Wp (po_eq rfl rfl) ?_
    refine Wp (po_bf (po_move rfl) (decide_eq_false (by omega))) ?_
    refine rp 10 rfl ?_
    refine Sn (Aw ?_)
    refine r_cond_f rfl rfl ?_
    refine Sq (Rg ?_)
    refine rp 1 rfl ?_
    refine Wp (po_eq rfl rfl) ?_
    refine Wp (po_bf (po_move rfl) (decide_eq_false (by omega))) ?_
    refine rp 10 rfl ?_
    refine Sn (Aw ?_)
    refine r_cond_f rfl rfl ?_
    refine Sq (Rg ?_)
    refine rp 1 rfl ?_
    refine Wp (po_eq rfl rfl) ?_
    refine Wp (po_bf (po_move rfl) (decide_eq_false (by omega))) ?_
    refine rp 4 rfl ?_
    refine Sn (Aw ?_)
    refine r_cond_f rfl rfl ?_
    refine Sk (Bn (Aw (Sq (Rg ?_))))
    refine rp 1 rfl ?_
    refine Sn (Aw (Rt ?_))
    refine at_ret1 rfl (rv_tmp rfl) ⟨_, ⟨by rw [h0, s0, if_neg hy], rfl⟩, ?_⟩
    try dsimp only [ca, na, HelmS.m, HelmS.p]
    exact ent
  ·skip
   refine ws (st_po (po_bf (po_move rfl) (decide_eq_false h0)) rfl rfl rfl ?_)
   refine rp 4 rfl ?_
   refine Sn (Aw ?_)
   refine r_cond_f rfl rfl ?_
   refine Sq (Rg ?_)
   refine rp 1 rfl ?_
   refine Wp (po_eq rfl rfl) ?_
   by_cases h1 : k = 1
   ·skip
    refine ws (st_po (po_bt (po_move rfl) (decide_eq_true h1)) rfl rfl rfl ?_)
    refine rp 3 rfl ?_
    refine Wp (po_faddr rfl (by exact fc_field_91_0_0)) ?_
    refine Wp (po_faddr rfl (by exact fc_field_41_0_0)) ?_
    refine Wp (po_load rfl (by exact fc_flat_3) (by rfl)) ?_
    refine Wp (po_sub' rfl rfl (by omega) (by omega)) ?_
    refine Wp (po_lt rfl rfl) ?_
    refine rp 2 rfl ?_
    refine Sn (Aw ?_)
    refine Rc rfl ?_ ?_
    ·skip
     intro hy
     refine Sq (Rg ?_)
     refine rp 1 rfl ?_
     refine Wp (po_add' rfl rfl (by omega) (by omega)) ?_
     refine rp 1 rfl ?_
     refine Sn (Aw (Rt (Br (Ar ?_))))
     refine at_ret1 rfl (rv_tmp rfl) ⟨_, ⟨by rw [h1, s1, if_pos hy], rfl⟩, ?_⟩
     try dsimp only [ca, na, HelmS.m, HelmS.p]
     exact ent
    ·skip
     intro hy
     refine Sq (Rg ?_)
     refine rp 1 rfl ?_
     refine Wp (po_eq rfl rfl) ?_
     refine Wp (po_bf (po_move rfl) (decide_eq_false (by omega))) ?_
     refine rp 10 rfl ?_
     refine Sn (Aw ?_)
     refine r_cond_f rfl rfl ?_
     refine Sq (Rg ?_)
     refine rp 1 rfl ?_
     refine Wp (po_eq rfl rfl) ?_
     refine Wp (po_bf (po_move rfl) (decide_eq_false (by omega))) ?_
     refine rp 4 rfl ?_
     refine Sn (Aw ?_)
     refine r_cond_f rfl rfl ?_
     refine Sk (Bn (Aw (Sq (Rg ?_))))
     refine rp 1 rfl ?_
     refine Sn (Aw (Rt ?_))
     refine at_ret1 rfl (rv_tmp rfl) ⟨_, ⟨by rw [h1, s1, if_neg hy], rfl⟩, ?_⟩
     try dsimp only [ca, na, HelmS.m, HelmS.p]
     exact ent
   ·skip
    refine ws (st_po (po_bf (po_move rfl) (decide_eq_false h1)) rfl rfl rfl ?_)
    refine rp 10 rfl ?_
    refine Sn (Aw ?_)
    refine r_cond_f rfl rfl ?_
    refine Sq (Rg ?_)
    refine rp 1 rfl ?_
    refine Wp (po_eq rfl rfl) ?_
    by_cases h2 : k = 2
    ·skip
     refine ws (st_po (po_bt (po_move rfl) (decide_eq_true h2)) rfl rfl rfl ?_)
     refine rp 3 rfl ?_
     refine Wp (po_faddr rfl (by exact fc_field_91_0_0)) ?_
     refine Wp (po_faddr rfl (by exact fc_field_41_1_1)) ?_
     refine Wp (po_load rfl (by exact fc_flat_3) (by rfl)) ?_
     refine Wp (po_sub' rfl rfl (by omega) (by omega)) ?_
     refine Wp (po_lt rfl rfl) ?_
     refine rp 2 rfl ?_
     refine Sn (Aw ?_)
     refine Rc rfl ?_ ?_
     ·skip
      intro hy
      refine Sq (Rg ?_)
      refine rp 3 rfl ?_
      refine Wp (po_faddr rfl (by exact fc_field_91_0_0)) ?_
      refine Wp (po_faddr rfl (by exact fc_field_41_0_0)) ?_
      refine Wp (po_load rfl (by exact fc_flat_3) (by rfl)) ?_
      refine Wp (po_add' rfl rfl (by omega) (by omega)) ?_
      refine rp 1 rfl ?_
      refine Sn (Aw (Rt (Br (Ar ?_))))
      refine at_ret1 rfl (rv_tmp rfl) ⟨_, ⟨by rw [h2, s2, if_pos hy], rfl⟩, ?_⟩
      try dsimp only [ca, na, HelmS.m, HelmS.p]
      exact ent
     ·skip
      intro hy
      refine Sq (Rg ?_)
      refine rp 1 rfl ?_
      refine Wp (po_eq rfl rfl) ?_
      refine Wp (po_bf (po_move rfl) (decide_eq_false (by omega))) ?_
      refine rp 4 rfl ?_
      refine Sn (Aw ?_)
      refine r_cond_f rfl rfl ?_
      refine Sk (Bn (Aw (Sq (Rg ?_))))
      refine rp 1 rfl ?_
      refine Sn (Aw (Rt ?_))
      refine at_ret1 rfl (rv_tmp rfl) ⟨_, ⟨by rw [h2, s2, if_neg hy], rfl⟩, ?_⟩
      try dsimp only [ca, na, HelmS.m, HelmS.p]
      exact ent
    ·skip
     refine ws (st_po (po_bf (po_move rfl) (decide_eq_false h2)) rfl rfl rfl ?_)
     refine rp 10 rfl ?_
     refine Sn (Aw ?_)
     refine r_cond_f rfl rfl ?_
     refine Sq (Rg ?_)
     refine rp 1 rfl ?_
     refine Wp (po_eq rfl rfl) ?_
     refine Wp (po_bt (po_move rfl) (decide_eq_true (by omega))) ?_
     refine rp 1 rfl ?_
     refine Wp (po_gt rfl rfl) ?_
     refine rp 2 rfl ?_
     refine Sn (Aw ?_)
     refine Rc rfl ?_ ?_
     ·skip
      intro hy
      refine Sq (Rg ?_)
      refine rp 1 rfl ?_
      refine Wp (po_sub' rfl rfl (by omega) (by omega)) ?_
      refine rp 1 rfl ?_
      refine Sn (Aw (Rt (Br (Ar ?_))))
      refine at_ret1 rfl (rv_tmp rfl) ⟨_, ⟨by rw [show k = 3 by omega, s3, if_pos hy], rfl⟩, ?_⟩
      try dsimp only [ca, na, HelmS.m, HelmS.p]
      exact ent
     ·skip
      intro hy
      refine Sk (Bn (Aw (Sq (Rg ?_))))
      refine rp 1 rfl ?_
      refine Sn (Aw (Rt ?_))
      refine at_ret1 rfl (rv_tmp rfl) ⟨_, ⟨by rw [show k = 3 by omega, s3, if_neg hy], rfl⟩, ?_⟩
      try dsimp only [ca, na, HelmS.m, HelmS.p]
      exact ent

/-- does a local's distance come about by a side? -/
def ByN (t : Tile) (l : List Seed) (d : List Int) (c k : Int) : Prop :=
  if stepN t.w t.h c k < 0 then bestN l c k = gAt d c else gAt t.c (stepN t.w t.h c k) ≠ 255 ∧ gAt t.c (stepN t.w t.h c k) + gAt d (stepN t.w t.h c k) = gAt d c
instance (t : Tile) (l : List Seed) (d : List Int) (c k : Int) : Decidable (ByN t l d c k) := by unfold ByN; infer_instance

theorem helm_by (s : HelmS) (ok : HelmOk s) (c k : Int) (hc : 0 ≤ c ∧ c < s.t.c.length) (hk : 0 ≤ k ∧ k < 4) : Spec PP 114 #[s.p, .int .i64 c, .int .i64 k] s.m (fun v M => v = .bool (decide (ByN s.t s.l s.d c k)) ∧ M = s.m) := by
  obtain ⟨hm, hlen, hsm⟩ := ok.big
  have hic : IsC s.t.w s.t.h c := ⟨hm, hc.1, by rw [← hlen]; exact hc.2⟩
  have hdl := ok.dl
  have hst := step_ok hic hk.1 (by omega)
  have hdc : gAt s.d c = s.d[c.toNat]'(by omega) := gAt_get (by omega)
  refine spec_of (Go.Proofs.Tryz.func114) rfl rfl rfl (by exact fc_enters_114) ?_
  intro g F
  try dsimp only [ca, na, HelmS.m, HelmS.p]
  refine Sq (Rg ?_)
  refine rp 1 rfl ?_
  refine Sn (Aw (Sq (Rg ?_)))
  refine rp 3 rfl ?_
  refine Wc (co_fn rfl rfl) (helm_near s ok c k hc hk) ?_
  rintro v11 _ ⟨rfl, rfl⟩
  try dsimp only [ca, na, HelmS.m, HelmS.p]
  refine rp 1 rfl ?_
  refine Sn (Aw (Sq (Sq (Rg ?_))))
  refine rp 1 rfl ?_
  refine Wp (po_lt rfl rfl) ?_
  refine Sn (Aw ?_)
  refine Rc rfl ?_ ?_
  ·skip
   intro hn
   refine Sq ?_
   refine r_ord [] _ [(0, 1), (1, 1), (2, 1), (3, 0), (4, 1), (5, 1), (7, 1), (8, 1), (9, 1), (10, 0), (11, 1), (12, 0), (13, 0), (6, 2), (14, 1), (15, 1)] fc_mixed (by kernel_rfl) (fun _ h => h) ?_
   refine Of rfl (po_move rfl) ?_
   refine Of rfl (po_nil rfl) ?_
   refine Of rfl (po_faddr rfl (by exact fc_field_91_1_3)) ?_
   refine Or rfl (po_load rfl (by exact fc_flat_32) (by rfl)) ?_
   refine Of rfl (po_move rfl) ?_
   refine Of rfl (po_move rfl) ?_
   refine Of rfl (po_move rfl) ?_
   refine Of rfl (po_nil rfl) ?_
   refine Of rfl (po_faddr rfl (by exact fc_field_91_2_4)) ?_
   refine Or rfl (po_load rfl (by exact fc_flat_35) (by rfl)) ?_
   refine Of rfl (po_move rfl) ?_
   refine Or rfl (po_iaddr rfl rfl (by exact fc_slice_35_3_1) (by first | omega | (simp <;> omega)) (by first | omega | (simp <;> omega))) ?_
   refine Or rfl (po_load_sl rfl (List.getElem?_eq_getElem (by first | omega | (simp <;> omega))) (by exact fc_flat_3) (by rfl)) ?_
   refine o_st rfl (st_call (co_fn rfl rfl) (seeds_Best s.lv s.l c k (by have := ok.ll; omega)) (by infer_instance) rfl rfl rfl ?_)
   rintro v20 _ ⟨rfl, rfl⟩
   try dsimp only [ca, na, HelmS.m, HelmS.p]
   refine ⟨fun _ => (by first | exact fun _ h => h | exact ent), ?_⟩
   refine Of rfl (po_eq rfl rfl) ?_
   refine Of rfl (po_assign rfl) ?_
   refine o_nil ?_
   refine Aw (Rt (Ar ?_))
   refine at_ret1 rfl (rv_tmp rfl) ⟨_, ⟨by congr 1; refine decide_eq_decide.2 ?_; rw [ByN, if_pos hn, hdc], rfl⟩, ?_⟩
   try dsimp only [ca, na, HelmS.m, HelmS.p]
   exact ent
  ·skip
   intro hn
   have hin := (hst.2 (by omega)).1
   have hnl : stepN s.t.w s.t.h c k < s.t.c.length := by rw [hlen]; exact hin.2.2
   have hcn : gAt s.t.c (stepN s.t.w s.t.h c k) = s.t.c[(stepN s.t.w s.t.h c k).toNat]'(by omega) := gAt_get (by omega)
   have hdn : gAt s.d (stepN s.t.w s.t.h c k) = s.d[(stepN s.t.w s.t.h c k).toNat]'(by omega) := gAt_get (by omega)
   have hb1 := ok.bt _ (List.getElem_mem (show (stepN s.t.w s.t.h c k).toNat < s.t.c.length by omega))
   have hb2 := ok.dr _ (List.getElem_mem (show (stepN s.t.w s.t.h c k).toNat < s.d.length by omega))
   refine Sk (Aw (Sq ?_))
   refine r_ord [] _ [(0, 1), (1, 1), (2, 1), (3, 1), (4, 0), (5, 1), (6, 0), (7, 0), (8, 1), (9, 1), (10, 1), (11, 1), (12, 1), (13, 1), (14, 0), (15, 1), (16, 0), (17, 0), (18, 1), (19, 1), (20, 1), (21, 1), (22, 0), (23, 1), (24, 0), (25, 0), (26, 1), (27, 1), (28, 1), (29, 1), (30, 0), (31, 1), (32, 0), (33, 0), (34, 1), (35, 1), (36, 1)] fc_mixed (by kernel_rfl) (fun _ h => h) ?_
   refine Of rfl (po_move rfl) ?_
   refine Of rfl (po_nil rfl) ?_
   refine Of rfl (po_faddr rfl (by exact fc_field_91_0_0)) ?_
   refine Of rfl (po_faddr rfl (by exact fc_field_41_2_2)) ?_
   refine Or rfl (po_load rfl (by exact fc_flat_22) (by rfl)) ?_
   refine Of rfl (po_move rfl) ?_
   refine Or rfl (po_iaddr rfl rfl (by exact fc_slice_22_5_1) (by first | omega | (simp <;> omega)) (by first | omega | (simp <;> omega))) ?_
   refine Or rfl (po_load_sl rfl (List.getElem?_eq_getElem (by first | omega | (simp <;> omega))) (by exact fc_flat_5) (by rfl)) ?_
   refine Of rfl (po_ne rfl rfl) ?_
   by_cases hw : s.t.c[(stepN s.t.w s.t.h c k).toNat]'(by omega) ≠ 255
   ·skip
    refine o_fr rfl (po_bt (po_move rfl) (decide_eq_true hw)) rfl rfl rfl ?_
    refine Of rfl (po_move rfl) ?_
    refine Of rfl (po_nil rfl) ?_
    refine Of rfl (po_faddr rfl (by exact fc_field_91_0_0)) ?_
    refine Of rfl (po_faddr rfl (by exact fc_field_41_2_2)) ?_
    refine Or rfl (po_load rfl (by exact fc_flat_22) (by rfl)) ?_
    refine Of rfl (po_move rfl) ?_
    refine Or rfl (po_iaddr rfl rfl (by exact fc_slice_22_5_1) (by first | omega | (simp <;> omega)) (by first | omega | (simp <;> omega))) ?_
    refine Or rfl (po_load_sl rfl (List.getElem?_eq_getElem (by first | omega | (simp <;> omega))) (by exact fc_flat_5) (by rfl)) ?_
    refine Of rfl (po_conv_w rfl (by exact fc_int_5_u8) (by exact fc_int_3_i64) (wrap_i64 _ (by omega) (by omega))) ?_
    refine Of rfl (po_move rfl) ?_
    refine Of rfl (po_nil rfl) ?_
    refine Of rfl (po_faddr rfl (by exact fc_field_91_2_4)) ?_
    refine Or rfl (po_load rfl (by exact fc_flat_35) (by rfl)) ?_
    refine Of rfl (po_move rfl) ?_
    refine Or rfl (po_iaddr rfl rfl (by exact fc_slice_35_3_1) (by first | omega | (simp <;> omega)) (by first | omega | (simp <;> omega))) ?_
    refine Or rfl (po_load_sl rfl (List.getElem?_eq_getElem (by first | omega | (simp <;> omega))) (by exact fc_flat_3) (by rfl)) ?_
    refine Of rfl (po_add' rfl rfl (by omega) (by omega)) ?_
    refine Of rfl (po_move rfl) ?_
    refine Of rfl (po_nil rfl) ?_
    refine Of rfl (po_faddr rfl (by exact fc_field_91_2_4)) ?_
    refine Or rfl (po_load rfl (by exact fc_flat_35) (by rfl)) ?_
    refine Of rfl (po_move rfl) ?_
    refine Or rfl (po_iaddr rfl rfl (by exact fc_slice_35_3_1) (by first | omega | (simp <;> omega)) (by first | omega | (simp <;> omega))) ?_
    refine Or rfl (po_load_sl rfl (List.getElem?_eq_getElem (by first | omega | (simp <;> omega))) (by exact fc_flat_3) (by rfl)) ?_
    refine Of rfl (po_eq rfl rfl) ?_
    refine Of rfl (po_pick_t rfl rfl) ?_
    refine Of rfl (po_assign rfl) ?_
    refine o_nil ?_
    refine Aw (Rt ?_)
    refine at_ret1 rfl (rv_tmp rfl) ⟨_, ⟨by congr 1; refine decide_eq_decide.2 ?_; rw [ByN, if_neg hn, hdc, hcn, hdn]; exact ⟨fun e => ⟨hw, e⟩, fun e => e.2⟩, rfl⟩, ?_⟩
    try dsimp only [ca, na, HelmS.m, HelmS.p]
    exact ent
   ·skip
    refine o_fr rfl (po_bf (po_move rfl) (decide_eq_false hw)) rfl rfl rfl ?_
    refine o_no rfl rfl rfl rfl ?_
    refine o_no rfl rfl rfl rfl ?_
    refine o_no rfl rfl rfl rfl ?_
    refine o_no rfl rfl rfl rfl ?_
    refine o_nor rfl (by first | exact fun _ h => h | exact ent) rfl rfl rfl ?_
    refine o_no rfl rfl rfl rfl ?_
    refine o_nor rfl (by first | exact fun _ h => h | exact ent) rfl rfl rfl ?_
    refine o_nor rfl (by first | exact fun _ h => h | exact ent) rfl rfl rfl ?_
    refine o_no rfl rfl rfl rfl ?_
    refine o_no rfl rfl rfl rfl ?_
    refine o_no rfl rfl rfl rfl ?_
    refine o_no rfl rfl rfl rfl ?_
    refine o_nor rfl (by first | exact fun _ h => h | exact ent) rfl rfl rfl ?_
    refine o_no rfl rfl rfl rfl ?_
    refine o_nor rfl (by first | exact fun _ h => h | exact ent) rfl rfl rfl ?_
    refine o_nor rfl (by first | exact fun _ h => h | exact ent) rfl rfl rfl ?_
    refine o_no rfl rfl rfl rfl ?_
    refine o_no rfl rfl rfl rfl ?_
    refine o_no rfl rfl rfl rfl ?_
    refine o_no rfl rfl rfl rfl ?_
    refine o_nor rfl (by first | exact fun _ h => h | exact ent) rfl rfl rfl ?_
    refine o_no rfl rfl rfl rfl ?_
    refine o_nor rfl (by first | exact fun _ h => h | exact ent) rfl rfl rfl ?_
    refine o_nor rfl (by first | exact fun _ h => h | exact ent) rfl rfl rfl ?_
    refine o_no rfl rfl rfl rfl ?_
    refine Of rfl (po_pick_f rfl rfl) ?_
    refine Of rfl (po_assign rfl) ?_
    refine o_nil ?_
    refine Aw (Rt ?_)
    refine at_ret1 rfl (rv_tmp rfl) ⟨_, ⟨by rw [decide_eq_false (by rw [ByN, if_neg hn, hcn]; exact fun e => hw e.1)], rfl⟩, ?_⟩
    try dsimp only [ca, na, HelmS.m, HelmS.p]
    exact ent

def firstN (t : Tile) (l : List Seed) (d : List Int) (c : Int) : Int := if ByN t l d c 0 then 0 else if ByN t l d c 1 then 1 else if ByN t l d c 2 then 2 else if ByN t l d c 3 then 3 else 5
theorem helm_first (s : HelmS) (ok : HelmOk s) (c : Int) (hc : 0 ≤ c ∧ c < s.t.c.length) : Spec PP 87 #[s.p, .int .i64 c, .int .i64 0] s.m (fun v M => v = .int .i64 (firstN s.t s.l s.d c) ∧ M = s.m) := by
  refine spec_of (Go.Proofs.Tryz.func87) rfl rfl rfl (by exact fc_enters_87) ?_
  intro g F
  try dsimp only [ca, na, HelmS.m, HelmS.p]
  refine Sq (Rg ?_)
  refine rp 1 rfl ?_
  refine Sn (Aw (Sq (Sq (Rg ?_))))
  refine rp 1 rfl ?_
  refine Sn (Aw (Bk (Sq (Bk (Sq (Bk (Sq (Bk (Sq (Bk (Sq (Sq (Sq (Rg ?_))))))))))))))
  refine Wp (po_eq rfl rfl) ?_
  refine rp 1 rfl ?_
  refine Sn (Aw ?_)
  first | refine r_dec_t rfl (rfl) ?_ | refine r_nd_t rfl (rfl) ?_ | refine r_cond_t rfl (rfl) ?_
  refine Ex' (Ax (Ax (Bh (Aw (Sq (Rg ?_))))))
  refine rp 2 rfl ?_
  refine Wc (co_fn rfl rfl) (helm_by s ok c 0 hc (by decide)) ?_
  rintro v18 _ ⟨rfl, rfl⟩
  try dsimp only [ca, na, HelmS.m, HelmS.p]
  refine Sn (Aw ?_)
  refine Rc rfl ?_ ?_
  ·skip
   intro h0
   refine Sq (Rg ?_)
   refine rp 1 rfl ?_
   refine Sn (Aw (Rt (Br (Ar (Br (Ar (Br (Ar (Br (Ar ?_))))))))))
   refine at_ret1 rfl (rv_tmp rfl) ⟨_, ⟨by rw [firstN, if_pos h0], rfl⟩, ?_⟩
   try dsimp only [ca, na, HelmS.m, HelmS.p]
   exact ent
  ·skip
   intro h0
   refine Sk (Bn (Aw (Sq (Rg ?_))))
   refine rp 2 rfl ?_
   refine Wc (co_fn rfl rfl) (helm_by s ok c 1 hc (by decide)) ?_
   rintro v21 _ ⟨rfl, rfl⟩
   try dsimp only [ca, na, HelmS.m, HelmS.p]
   refine Sn (Aw ?_)
   refine Rc rfl ?_ ?_
   ·skip
    intro h1
    refine Sq (Rg ?_)
    refine rp 1 rfl ?_
    refine Sn (Aw (Rt (Br (Ar (Br (Ar (Br (Ar ?_))))))))
    refine at_ret1 rfl (rv_tmp rfl) ⟨_, ⟨by rw [firstN, if_neg h0, if_pos h1], rfl⟩, ?_⟩
    try dsimp only [ca, na, HelmS.m, HelmS.p]
    exact ent
   ·skip
    intro h1
    refine Sk (Bn (Aw (Sq (Rg ?_))))
    refine rp 2 rfl ?_
    refine Wc (co_fn rfl rfl) (helm_by s ok c 2 hc (by decide)) ?_
    rintro v24 _ ⟨rfl, rfl⟩
    try dsimp only [ca, na, HelmS.m, HelmS.p]
    refine Sn (Aw ?_)
    refine Rc rfl ?_ ?_
    ·skip
     intro h2
     refine Sq (Rg ?_)
     refine rp 1 rfl ?_
     refine Sn (Aw (Rt (Br (Ar (Br (Ar ?_))))))
     refine at_ret1 rfl (rv_tmp rfl) ⟨_, ⟨by rw [firstN, if_neg h0, if_neg h1, if_pos h2], rfl⟩, ?_⟩
     try dsimp only [ca, na, HelmS.m, HelmS.p]
     exact ent
    ·skip
     intro h2
     refine Sk (Bn (Aw (Sq (Sq (Rg ?_)))))
     refine rp 2 rfl ?_
     refine Wc (co_fn rfl rfl) (helm_by s ok c 3 hc (by decide)) ?_
     rintro v27 _ ⟨rfl, rfl⟩
     try dsimp only [ca, na, HelmS.m, HelmS.p]
     refine Sn (Aw ?_)
     refine Rc rfl ?_ ?_
     ·skip
      intro h3
      refine Sq (Rg ?_)
      refine rp 1 rfl ?_
      refine Sn (Aw (Rt (Ar (Br (Ar ?_)))))
      refine at_ret1 rfl (rv_tmp rfl) ⟨_, ⟨by rw [firstN, if_neg h0, if_neg h1, if_neg h2, if_pos h3], rfl⟩, ?_⟩
      try dsimp only [ca, na, HelmS.m, HelmS.p]
      exact ent
     ·skip
      intro h3
      refine Sk (Aw (Ex' (Bh (Aw (Sq (Rg ?_))))))
      refine rp 1 rfl ?_
      refine Sn (Aw (Rt ?_))
      refine at_ret1 rfl (rv_tmp rfl) ⟨_, ⟨by rw [firstN, if_neg h0, if_neg h1, if_neg h2, if_neg h3], rfl⟩, ?_⟩
      try dsimp only [ca, na, HelmS.m, HelmS.p]
      exact ent

/-- 10.1: a local's direction -/
def dirN (t : Tile) (l : List Seed) (d : List Int) (c : Int) : Int := if gAt d c = 1099511627776 then 5 else if gAt d c = bestN l c 4 then 4 else firstN t l d c
theorem helm_dir (s : HelmS) (ok : HelmOk s) (c : Int) (hc : 0 ≤ c ∧ c < s.t.c.length) : Spec PP 56 #[s.p, .int .i64 c] s.m (fun v M => v = .int .i64 (dirN s.t s.l s.d c) ∧ M = s.m) := by
  have hdl := ok.dl
  have hdc : gAt s.d c = s.d[c.toNat]'(by omega) := gAt_get (by omega)
  refine spec_of (Go.Proofs.Tryz.func56) rfl rfl rfl (by exact fc_enters_56) ?_
  intro g F
  try dsimp only [ca, na, HelmS.m, HelmS.p]
  refine Sq (Rg ?_)
  refine rp 1 rfl ?_
  refine Sn (Aw (Sq (Sq (Rg ?_))))
  refine rp 2 rfl ?_
  refine Wp (po_faddr rfl (by exact fc_field_91_2_4)) ?_
  refine Wp (po_load rfl (by exact fc_flat_35) (by rfl)) ?_
  refine rp 1 rfl ?_
  refine Wp (po_iaddr rfl rfl (by exact fc_slice_35_3_1) (by first | omega | (simp <;> omega)) (by first | omega | (simp <;> omega))) ?_
  refine Wp (po_load_sl rfl (List.getElem?_eq_getElem (by first | omega | (simp <;> omega))) (by exact fc_flat_3) (by rfl)) ?_
  refine Sn (Aw (Bk (Sq (Rg ?_))))
  refine Wp (po_eq rfl rfl) ?_
  refine rp 1 rfl ?_
  refine Sn (Aw ?_)
  refine Rc rfl ?_ ?_
  ·skip
   intro h0
   refine Sq (Rg ?_)
   refine rp 1 rfl ?_
   refine Sn (Aw (Rt (Br (Ar ?_))))
   refine at_ret1 rfl (rv_tmp rfl) ⟨_, ⟨by rw [dirN, hdc, if_pos h0], rfl⟩, ?_⟩
   try dsimp only [ca, na, HelmS.m, HelmS.p]
   exact ent
  ·skip
   intro h0
   refine Sq (Rg ?_)
   refine rp 2 rfl ?_
   refine Wp (po_faddr rfl (by exact fc_field_91_1_3)) ?_
   refine Wp (po_load rfl (by exact fc_flat_32) (by rfl)) ?_
   refine rp 1 rfl ?_
   refine Wc (co_fn rfl rfl) (seeds_Best s.lv s.l c 4 (by have := ok.ll; omega)) ?_
   rintro v20 _ ⟨rfl, rfl⟩
   try dsimp only [ca, na, HelmS.m, HelmS.p]
   refine Wp (po_eq rfl rfl) ?_
   refine rp 1 rfl ?_
   refine Sn (Aw ?_)
   refine Rc rfl ?_ ?_
   ·skip
    intro h1
    refine Sq (Rg ?_)
    refine rp 1 rfl ?_
    refine Sn (Aw (Rt (Br (Ar ?_))))
    refine at_ret1 rfl (rv_tmp rfl) ⟨_, ⟨by rw [dirN, hdc, if_neg h0, if_pos h1], rfl⟩, ?_⟩
    try dsimp only [ca, na, HelmS.m, HelmS.p]
    exact ent
   ·skip
    intro h1
    refine Sk (Bn (Aw (Sq (Rg ?_))))
    refine rp 2 rfl ?_
    refine Wc (co_fn rfl rfl) (helm_first s ok c hc) ?_
    rintro v24 _ ⟨rfl, rfl⟩
    try dsimp only [ca, na, HelmS.m, HelmS.p]
    refine rp 1 rfl ?_
    refine Sn (Aw (Rt ?_))
    refine at_ret1 rfl (rv_tmp rfl) ⟨_, ⟨by rw [dirN, hdc, if_neg h0, if_neg h1], rfl⟩, ?_⟩
    try dsimp only [ca, na, HelmS.m, HelmS.p]
    exact ent

def dirsTo (t : Tile) (l : List Seed) (d : List Int) (k : Nat) : List Int := (List.range k).map fun (i : Nat) => dirN t l d i
theorem dist_rng {w h : Int} {C : List Int} {src : Int → Int → Prop} {d : List Int} (k : IsDist w h C src (dF d)) : ∀ x ∈ d, 0 ≤ x ∧ x ≤ 1099511627776 := by
  intro x hx
  obtain ⟨i, hi, rfl⟩ := List.getElem_of_mem hx
  have := k.rng (i : Int)
  rw [dF, if_pos (by omega), gAt_nat hi] at this
  have hI : INF = 1099511627776 := rfl
  omega
theorem steer_Field (tc lv : Value) (t : Tile) (l : List Seed) (hm : MayS t l) (hb : ∀ x ∈ t.c, 1 ≤ x ∧ x ≤ 255) (hn : l.Nodup) (hl : l.length ≤ 2^20) :
    Spec PP 24 #[tileV tc t, lv] [Sl eB tc t.c, Sl eS lv l]
      (fun v M => ∃ dv d rv, v = .tuple #[.agg #[dv, rv], .int .i64 0] ∧ M = [Sl eB tc t.c, Sl eS lv l, Sl eI dv d, Sl eI rv (dirsTo t l d t.c.length)] ∧ d.length = t.c.length ∧ IsDist t.w t.h t.c (srcS l) (dF d)) := by
  refine spec_of (Go.Proofs.Tryz.func24) rfl rfl rfl (by exact fc_enters_24) ?_
  intro g F
  try dsimp only [ca, na, HelmS.m, HelmS.p]
  refine Sq (Rg ?_)
  refine Wx (xo_box rfl rfl) ?_
  rintro _ _ ⟨b2, rfl, rfl⟩
  refine Wx (xo_alloc (by exact fc_zero_54)) ?_
  rintro _ _ ⟨b4, rfl, rfl⟩
  refine rp 1 rfl ?_
  refine Sn (Aw (Sq (Rg ?_)))
  refine Wp (po_loada rfl (by exact fc_agg_41_3) (by rfl)) ?_
  refine rp 1 rfl ?_
  refine Wc (co_fn rfl rfl) (sweep_Spread tc lv t l hm hb hn hl) ?_
  rintro v14 _ ⟨dv, d, rfl, rfl, hdl, hd⟩
  try dsimp only [ca, na, HelmS.m, HelmS.p]
  refine rp 5 rfl ?_
  refine Sn (Aw (Sq (Sq (Rg ?_))))
  refine rp 1 rfl ?_
  refine Wp (po_ne rfl rfl) ?_
  refine Sn (Aw ?_)
  first | refine r_dec_f rfl (by simp) ?_ | refine r_nd_f rfl (by simp) ?_ | refine r_cond_f rfl (by simp) ?_
  refine Sk (Aw (Sq (Rg ?_)))
  refine Wp (po_loada rfl (by exact fc_agg_41_3) (by rfl)) ?_
  refine rp 2 rfl ?_
  refine Wp (po_build1 rfl (by exact fc_zero_91) (by exact fc_places_91_0_1_2) (by exact fc_info_91) rfl) ?_
  refine Wx (xo_box rfl rfl) ?_
  rintro _ _ ⟨b25, rfl, rfl⟩
  refine rp 1 rfl ?_
  refine Sn (Aw (Sq (Rg ?_)))
  refine rp 1 rfl ?_
  refine Wp (po_build1 rfl (by exact fc_zero_54) (by exact fc_places_54_0) (by exact fc_info_54) rfl) ?_
  refine Wx (xo_alloc (by exact fc_zero_54)) ?_
  rintro _ _ ⟨b9, rfl, rfl⟩
  refine Ws (so_storea1 rfl rfl (by exact fc_agg_54_2) rfl rfl) ?_
  refine Sn (Aw (Sq (Sq ?_)))
  have ok : HelmOk ⟨b25, t, tc, lv, l, dv, d⟩ := ⟨hm.1, hb, hdl, dist_rng hd, hl⟩
  have hsm : t.c.length ≤ 256 := ok.big.2.2
  refine Rg ?_
  refine rp 1 rfl ?_
  refine Wp (po_len rfl (by exact fc_slice_35_3_1)) ?_
  refine rp 1 rfl ?_
  refine Sn (Aw (Bk ?_))
  refine r_loop (S := Nat × Value × List Int) (fun ⟨k, rv, xs⟩ => [(30, .int .i64 k)]) [(4, _), (8, _), (9, _), (29, _)] (fun ⟨k, rv, xs⟩ => [Blk b9 54 [dv, rv], Blk b25 91 [.int .i64 t.w, .int .i64 t.h, tc, lv, dv], Sl eB tc t.c, Sl eS lv l, Sl eI dv d, Sl eI rv xs, Blk b4 54 [.slice none 0 0, .slice none 0 0], F]) (fun ⟨k, rv, xs⟩ => k ≤ d.length ∧ xs = dirsTo t l d k) (fun ⟨k, rv, xs⟩ => d.length - k) ((0, .slice none 0 0, [])) (And.intro rfl (And.intro rfl (And.intro rfl (And.intro rfl (trivial))))) (And.intro rfl (trivial)) (⟨by omega, rfl⟩) ent ?_
  rintro ⟨k, rv, xs⟩ ⟨hk, hxs⟩
  try dsimp only [ca, na, HelmS.m, HelmS.p]
  have hxl : xs.length = k := by rw [hxs]; simp [dirsTo]
  refine Sq (Rg ?_)
  refine Wp (po_lt rfl rfl) ?_
  refine Sn (Aw (Sq ?_))
  refine Rc rfl ?_ ?_
  ·skip
   intro hlt
   refine Sk (Aw (Sq (Bk (Sq (Rg ?_)))))
   refine rp 2 rfl ?_
   refine Sn (Aw ?_)
   refine r_ord [6, 8] _ [(0, 1), (1, 0), (2, 1), (3, 1), (4, 2), (5, 2), (6, 2), (7, 1), (8, 2)] fc_mixed (by kernel_rfl) (fun _ h => h) ?_
   refine Of rfl (po_faddr rfl (by exact fc_field_54_1_1)) ?_
   refine Or rfl (po_load rfl (by exact fc_flat_35) (by rfl)) ?_
   refine Of rfl (po_move rfl) ?_
   refine Of rfl (po_move rfl) ?_
   refine o_st rfl (st_call (co_fn rfl rfl) (helm_dir ⟨b25, t, tc, lv, l, dv, d⟩ ok k (by rw [← hdl]; exact ⟨by omega, hlt⟩)) (by infer_instance) rfl rfl rfl ?_)
   rintro v37 _ ⟨rfl, rfl⟩
   try dsimp only [ca, na, HelmS.m, HelmS.p]
   refine ⟨fun _ => (by first | exact fun _ h => h | exact ent), ?_⟩
   refine o_st rfl (st_xo (xo_bslice eI [_] rfl (by exact fc_slice_35_3_1) (by exact fc_elem_3_1_8) ⟨rfl, rfl, trivial⟩ rfl (by decide)) rfl rfl rfl ?_)
   rintro v38 _ rfl
   refine ⟨fun _ => (by first | exact fun _ h => h | exact ent), ?_⟩
   refine o_st rfl (st_xo (xo_append rfl rfl (by exact fc_slice_35_3_1) (by exact fc_slice_35_3_1) (by exact fc_elem_3_1_8) (by first | omega | (simp <;> omega)) (by first | omega | (simp <;> omega))) rfl rfl rfl ?_)
   rintro v39 _ rfl
   refine ⟨fun h => late_no h (by kernel_rfl), ?_⟩
   refine Of rfl (po_faddr rfl (by exact fc_field_54_1_1)) ?_
   refine o_st rfl (st_so (so_store1 rfl rfl (by exact fc_flat_35) rfl) rfl rfl ?_)
   refine ⟨fun h => late_no h (by kernel_rfl), ?_⟩
   refine o_nil ?_
   refine Bn (Aw (Rg ?_))
   refine Wp (po_add' rfl rfl (by omega) (by omega)) ?_
   refine rp 1 rfl ?_
   refine Sn ?_
   exact at_again ((k + 1, v39, xs ++ [dirN t l d k])) (And.intro rfl (trivial)) (And.intro rfl (And.intro rfl (And.intro rfl (And.intro rfl (trivial))))) (⟨by omega, by rw [hxs, dirsTo, dirsTo, rng_succ]⟩) (by omega) ent
  ·skip
   intro hlt
   refine Ex' (Ax (Ax (Bh (Aw (Sq (Rg ?_))))))
   refine Wp (po_loada rfl (by exact fc_agg_54_2) (by rfl)) ?_
   refine Ws (so_storea1 rfl rfl (by exact fc_agg_54_2) rfl rfl) ?_
   refine rp 1 rfl ?_
   refine Sn (Aw (Rt ?_))
   have hke : xs = dirsTo t l d t.c.length := by rw [hxs, ← hdl, show k = d.length by omega]
   subst hke
   refine at_ret2 rfl (rv_cella rfl (by exact fc_agg_54_2) (by rfl)) (rv_tmp rfl) ⟨_, ⟨dv, d, rv, rfl, rfl, hdl, hd⟩, ?_⟩
   try dsimp only [ca, na, HelmS.m, HelmS.p]
   exact ent
end Hd
end
section
namespace Hd
set_option maxRecDepth 100000
open Go

/-- open locals of a tile, rising -/
structure LocsOk (t : Tile) (l : List Int) : Prop where
  may : MayT t
  bt : ∀ x ∈ t.c, 1 ≤ x ∧ x ≤ 255
  op : ∀ x ∈ l, Opn t.c x
  up : Rising l
theorem LocsOk.small {t : Tile} {l : List Int} (k : LocsOk t l) : t.c.length ≤ 256 := by
  have h1 := k.may.1
  have h2 := k.may.2.1
  unfold Sized at h1 h2
  have hmul : t.w * t.h ≤ 16 * 16 := Int.mul_le_mul h1.2 h2.2 (by omega) (by decide)
  have := k.may.2.2.1
  omega
theorem rising_len {l : List Int} (h : Rising l) {n : Nat} (hb : ∀ x ∈ l, 0 ≤ x ∧ x < (n : Int)) : l.length ≤ n := by
  have key : ∀ i : Nat, (hi : i < l.length) → (i : Int) ≤ l[i] := by
    intro i
    induction i with
    | zero => intro hi; exact (hb _ (List.getElem_mem hi)).1
    | succ i ih =>
      intro hi
      have := ih (by omega)
      have := h i (i + 1) (by omega) hi (by omega)
      omega
  rcases Nat.lt_or_ge n l.length with e | e
  · have h1 := key n e
    have h2 := (hb _ (List.getElem_mem e)).2
    omega
  · exact e

theorem table_may (tc lv : Value) (t : Tile) (l : List Int) (ok : LocsOk t l) : Spec PP 145 #[tileV tc t, lv] [Sl eB tc t.c, Sl eI lv l] (fun v M => v = .bool true ∧ M = [Sl eB tc t.c, Sl eI lv l]) := by
  have hsm := ok.small
  have hll := rising_len ok.up (n := t.c.length) (fun x hx => ⟨(ok.op x hx).1, (ok.op x hx).2.1⟩)
  refine spec_of (Go.Proofs.Tryz.func145) rfl rfl rfl (by exact fc_enters_145) ?_
  intro g F
  try dsimp only [ca, na]
  refine Sq (Rg ?_)
  refine Wx (xo_box rfl rfl) ?_
  rintro _ _ ⟨b2, rfl, rfl⟩
  refine rp 1 rfl ?_
  refine Sn (Aw (Sq (Sq (Rg ?_))))
  refine rp 1 rfl ?_
  refine Wp (po_len rfl (by exact fc_slice_35_3_1)) ?_
  refine rp 1 rfl ?_
  refine Sn (Aw (Bk ?_))
  refine r_loop (S := Nat) (fun k => [(10, .int .i64 k)]) [(1, _), (2, _), (8, _), (9, _)] (fun k => [Sl eI lv l, Blk b2 41 [.int .i64 t.w, .int .i64 t.h, tc], Sl eB tc t.c, F]) (fun k => k ≤ l.length) (fun k => l.length - k) (0) (And.intro rfl (And.intro rfl (And.intro rfl (And.intro rfl (trivial))))) (And.intro rfl (trivial)) (by omega) ent ?_
  rintro k hk
  try dsimp only [ca, na]
  refine Sq (Rg ?_)
  refine Wp (po_lt rfl rfl) ?_
  refine Sn (Aw (Sq ?_))
  refine Rc rfl ?_ ?_
  ·skip
   intro hlt
   have hkl : k < l.length := by omega
   have hop := ok.op _ (List.getElem_mem hkl)
   have hat : tileAt t l[k] = gAt t.c l[k] := by rw [tileAt, if_pos ⟨hop.1, hop.2.1, ok.may⟩]
   have hbt := ok.bt _ (List.getElem_mem (show l[k].toNat < t.c.length by have := hop.1; have := hop.2.1; omega))
   rw [← gAt_get, ← hat] at hbt
   refine Sk (Aw (Sq (Bk (Sq (Rg ?_)))))
   refine rp 1 rfl ?_
   refine Wp (po_iaddr rfl rfl (by exact fc_slice_35_3_1) (by first | omega | (simp <;> omega)) (by first | omega | (simp <;> omega))) ?_
   refine Wp (po_load_sl rfl (List.getElem?_eq_getElem (by first | omega | (simp <;> omega))) (by exact fc_flat_3) (by rfl)) ?_
   refine rp 2 rfl ?_
   refine Sn (Aw (Sq (Rg ?_)))
   refine Wp (po_loada rfl (by exact fc_agg_41_3) (by rfl)) ?_
   refine rp 1 rfl ?_
   refine Wc (co_fn rfl rfl) (tile_At tc t (l[k]) (by omega) (fun x hx => by have := ok.bt x hx; omega)) ?_
   rintro v17 _ ⟨rfl, rfl⟩
   try dsimp only [ca, na]
   refine rp 1 rfl ?_
   refine Sn (Aw (Sq (Rg ?_)))
   refine rp 1 rfl ?_
   refine Wp (po_eq rfl rfl) ?_
   refine Wp (po_bf (po_move rfl) (decide_eq_false (by omega))) ?_
   refine rp 1 rfl ?_
   refine Wp (po_eq rfl rfl) ?_
   refine rp 1 rfl ?_
   refine Wp (po_bf (po_move rfl) (decide_eq_false (by rw [hat]; exact hop.2.2))) ?_
   refine rp 1 rfl ?_
   refine Wp (po_gt rfl rfl) ?_
   by_cases h0 : (0 : Int) < k
   ·skip
    refine ws (st_po (po_bt (po_move rfl) (decide_eq_true h0)) rfl rfl rfl ?_)
    refine rp 3 rfl ?_
    refine Wp (po_sub' rfl rfl (by omega) (by omega)) ?_
    refine Wp (po_iaddr rfl rfl (by exact fc_slice_35_3_1) (by first | omega | (simp <;> omega)) (by first | omega | (simp <;> omega))) ?_
    refine Wp (po_load_sl rfl (List.getElem?_eq_getElem (by first | omega | (simp <;> omega))) (by exact fc_flat_3) (by rfl)) ?_
    refine Wp (po_le rfl rfl) ?_
    refine rp 2 rfl ?_
    refine Sn (Aw ?_)
    first | refine r_dec_f rfl (Int.not_le.2 (ok.up ((k : Int) - 1).toNat (k : Int).toNat (by omega) (by omega) (by omega))) ?_ | refine r_nd_f rfl (Int.not_le.2 (ok.up ((k : Int) - 1).toNat (k : Int).toNat (by omega) (by omega) (by omega))) ?_ | refine r_cond_f rfl (Int.not_le.2 (ok.up ((k : Int) - 1).toNat (k : Int).toNat (by omega) (by omega) (by omega))) ?_
    refine Sk (Bn (Aw (Rg ?_)))
    refine Wp (po_add' rfl rfl (by omega) (by omega)) ?_
    refine rp 1 rfl ?_
    refine Sn ?_
    exact at_again (k + 1) (And.intro rfl (trivial)) (And.intro rfl (And.intro rfl (And.intro rfl (And.intro rfl (trivial))))) (by omega) (by omega) ent
   ·skip
    refine ws (st_po (po_bf (po_move rfl) (decide_eq_false h0)) rfl rfl rfl ?_)
    refine rp 9 rfl ?_
    refine Sn (Aw ?_)
    refine r_cond_f rfl rfl ?_
    refine Sk (Bn (Aw (Rg ?_)))
    refine Wp (po_add' rfl rfl (by omega) (by omega)) ?_
    refine rp 1 rfl ?_
    refine Sn ?_
    exact at_again (k + 1) (And.intro rfl (trivial)) (And.intro rfl (And.intro rfl (And.intro rfl (And.intro rfl (trivial))))) (by omega) (by omega) ent
  ·skip
   intro hlt
   refine Ex' (Ax (Ax (Bh (Aw (Sq (Rg ?_))))))
   refine Wp (po_loada rfl (by exact fc_agg_41_3) (by rfl)) ?_
   refine Wc (co_fn rfl rfl) (tile_May tc t (by omega)) ?_
   rintro v39 _ ⟨rfl, rfl⟩
   try dsimp only [ca, na]
   refine rp 1 rfl ?_
   refine Sn (Aw (Rt ?_))
   refine at_ret1 rfl (rv_tmp rfl) ⟨_, ⟨by rw [decide_eq_true ok.may], rfl⟩, ?_⟩
   try dsimp only [ca, na]
   exact ent

/-- how far each local is from a local -/
abbrev oneS (x : Int) : List Seed := [⟨x, 4, 0⟩]
theorem one_may {t : Tile} (hm : MayT t) {x : Int} (ho : Opn t.c x) : MayS t (oneS x) := by
  refine ⟨hm, fun s hs => ?_⟩
  have : s = ⟨x, 4, 0⟩ := by simpa using hs
  subst this
  exact ⟨ho.1, ho.2.1, ho.2.2, Int.le_refl _, by simp, by simp [OutS]⟩
theorem table_To (tc : Value) (t : Tile) (x : Int) (hm : MayT t) (hb : ∀ x ∈ t.c, 1 ≤ x ∧ x ≤ 255) (ho : Opn t.c x) : Spec PP 146 #[tileV tc t, .int .i64 x] [Sl eB tc t.c]
    (fun v M => ∃ dv d, v = .tuple #[dv, .int .i64 0] ∧ M = [Sl eB tc t.c, Sl eI dv d] ∧ d.length = t.c.length ∧ IsDist t.w t.h t.c (srcS (oneS x)) (dF d)) := by
  refine spec_of (Go.Proofs.Tryz.func146) rfl rfl rfl (by exact fc_enters_146) ?_
  intro g F
  try dsimp only [ca, na]
  refine Sq (Rg ?_)
  refine Wx (xo_box rfl rfl) ?_
  rintro _ _ ⟨b2, rfl, rfl⟩
  refine rp 2 rfl ?_
  refine Sn (Aw (Sq (Rg ?_)))
  refine Wp (po_loada rfl (by exact fc_agg_41_3) (by rfl)) ?_
  refine rp 1 rfl ?_
  refine Wp (po_build1 rfl (by exact fc_zero_45) (by exact fc_places_45_0_1) (by exact fc_info_45) rfl) ?_
  refine Wx (xo_bslice eS (oneS x) rfl (by exact fc_slice_32_45_3) (by exact fc_elem_45_3_24) ⟨rfl, rfl, trivial⟩ rfl (by decide)) ?_
  rintro v9 _ rfl
  refine Wc (co_fn rfl rfl) (sweep_Spread tc v9 t (oneS x) (one_may hm ho) hb (by simp) (by simp)) ?_
  rintro v10 _ ⟨dv, d, rfl, rfl, hdl, hd⟩
  try dsimp only [ca, na]
  refine rp 4 rfl ?_
  refine Sn (Aw (Rt ?_))
  refine at_ret2 rfl (rv_tmp rfl) (rv_tmp rfl) ⟨_, ⟨dv, d, rfl, rfl, hdl, hd⟩, ?_⟩
  try dsimp only [ca, na]
  exact ent

/-- a column of the table -/
def Col (t : Tile) (l : List Int) (out : List Int) (j : Nat) : Prop := ∃ (x : Int) (d : List Int), l[j]? = some x ∧ d.length = t.c.length ∧ IsDist t.w t.h t.c (srcS (oneS x)) (dF d) ∧ ∀ i y, l[i]? = some y → out[i * l.length + j]? = some (gAt d y)
theorem idx_ne {n i j i' j' : Nat} (hj : j < n) (hj' : j' < n) (h : i * n + j = i' * n + j') : i = i' ∧ j = j' := by
  have h1 : (i * n + j) % n = j := by rw [Nat.add_comm, Nat.add_mul_mod_self_right, Nat.mod_eq_of_lt hj]
  have h2 : (i' * n + j') % n = j' := by rw [Nat.add_comm, Nat.add_mul_mod_self_right, Nat.mod_eq_of_lt hj']
  have h3 : (i * n + j) / n = i := by rw [Nat.add_comm, Nat.add_mul_div_right _ _ (by omega), Nat.div_eq_of_lt hj]; omega
  have h4 : (i' * n + j') / n = i' := by rw [Nat.add_comm, Nat.add_mul_div_right _ _ (by omega), Nat.div_eq_of_lt hj']; omega
  exact ⟨by rw [← h3, h, h4], by rw [← h1, h, h2]⟩
theorem idx_lt {n i j : Nat} (hi : i < n) (hj : j < n) : i * n + j < n * n := by
  have : (i + 1) * n ≤ n * n := Nat.mul_le_mul_right _ hi
  rw [Nat.succ_mul] at this; omega
theorem Col.set {t : Tile} {l out : List Int} {j i j' : Nat} {v : Int} (h : Col t l out j) (hj : j < l.length) (hj' : j' < l.length) (hne : j ≠ j') : Col t l (out.set (i * l.length + j') v) j := by
  obtain ⟨x, d, h1, h2, h3, h4⟩ := h
  refine ⟨x, d, h1, h2, h3, fun i' y hy => ?_⟩
  rw [List.getElem?_set, if_neg (fun e => hne (idx_ne hj' hj e).2.symm)]
  exact h4 i' y hy

theorem table_Make (tc lv : Value) (t : Tile) (l : List Int) (ok : LocsOk t l) : Spec PP 117 #[tileV tc t, lv] [Sl eB tc t.c, Sl eI lv l]
    (fun v M => ∃ ov out, v = .tuple #[ov, .int .i64 0] ∧ M = [Sl eB tc t.c, Sl eI lv l, Sl eI ov out] ∧ out.length = l.length * l.length ∧ ∀ j, j < l.length → Col t l out j) := by
  have hsm := ok.small
  have hll := rising_len ok.up (n := t.c.length) (fun x hx => ⟨(ok.op x hx).1, (ok.op x hx).2.1⟩)
  have hmul := mul_1k (a := (l.length : Int)) (b := l.length) (by omega) (by omega) (by omega) (by omega)
  refine spec_of (Go.Proofs.Tryz.func117) rfl rfl rfl (by exact fc_enters_117) ?_
  intro g F
  try dsimp only [ca, na]
  refine Sq (Rg ?_)
  refine Wx (xo_box rfl rfl) ?_
  rintro _ _ ⟨b2, rfl, rfl⟩
  refine rp 2 rfl ?_
  refine Sn (Aw (Sq (Sq (Rg ?_))))
  refine Wp (po_loada rfl (by exact fc_agg_41_3) (by rfl)) ?_
  refine rp 1 rfl ?_
  refine Wc (co_fn rfl rfl) (table_may tc lv t l ok) ?_
  rintro v16 _ ⟨rfl, rfl⟩
  try dsimp only [ca, na]
  refine Wp (po_not rfl) ?_
  refine Sn (Aw ?_)
  refine r_cond_f rfl (rfl) ?_
  refine Sk (Aw (Sq (Rg ?_)))
  refine rp 1 rfl ?_
  refine Wp (po_len rfl (by exact fc_slice_35_3_1)) ?_
  refine rp 1 rfl ?_
  refine Sn (Aw (Sq (Rg ?_)))
  refine rp 2 rfl ?_
  refine Wp (po_mul' rfl rfl (by omega) (by omega)) ?_
  refine Wx (xo_make eI (0) rfl rfl (by exact fc_slice_35_3_1) (by exact fc_elem_3_1_8) (by exact fc_zero_3) rfl (by first | omega | (simp <;> omega)) (by first | omega | (simp <;> omega)) (by first | omega | (simp <;> omega))) ?_
  rintro v23 _ rfl
  refine rp 1 rfl ?_
  refine Sn (Aw (Sq (Sq (Rg ?_))))
  refine rp 1 rfl ?_
  refine Wp (po_len rfl (by exact fc_slice_35_3_1)) ?_
  refine rp 1 rfl ?_
  refine Sn (Aw (Bk ?_))
  have hn2 : ((l.length : Int) * l.length).toNat = l.length * l.length := by rw [← Int.natCast_mul, Int.toNat_natCast]
  rw [hn2]
  refine r_loop (S := Nat × List Int) (fun ⟨j, out⟩ => [(26, .int .i64 j)]) [(1, _), (2, _), (6, _), (7, _), (24, _), (25, _)] (fun ⟨j, out⟩ => [Sl eI v23 out, Sl eI lv l, Blk b2 41 [.int .i64 t.w, .int .i64 t.h, tc], Sl eB tc t.c, F]) (fun ⟨j, out⟩ => j ≤ l.length ∧ out.length = l.length * l.length ∧ ∀ j', j' < j → Col t l out j') (fun ⟨j, out⟩ => l.length - j) ((0, List.replicate (l.length * l.length) 0)) (And.intro rfl (And.intro rfl (And.intro rfl (And.intro rfl (And.intro rfl (And.intro rfl (trivial))))))) (And.intro rfl (trivial)) (⟨by omega, by simp, fun j' h => by omega⟩) ent ?_
  rintro ⟨j, out⟩ ⟨hj, hol, hcol⟩
  try dsimp only [ca, na]
  refine Sq (Rg ?_)
  refine Wp (po_lt rfl rfl) ?_
  refine Sn (Aw (Sq ?_))
  refine Rc rfl ?_ ?_
  ·skip
   intro hjl
   have hjl' : j < l.length := by omega
   have hop := ok.op _ (List.getElem_mem hjl')
   refine Sk (Aw (Sq (Bk (Sq (Rg ?_)))))
   refine rp 1 rfl ?_
   refine Wp (po_iaddr rfl rfl (by exact fc_slice_35_3_1) (by first | omega | (simp <;> omega)) (by first | omega | (simp <;> omega))) ?_
   refine Wp (po_load_sl rfl (List.getElem?_eq_getElem (by first | omega | (simp <;> omega))) (by exact fc_flat_3) (by rfl)) ?_
   refine rp 2 rfl ?_
   refine Sn (Aw (Sq (Rg ?_)))
   refine Wp (po_loada rfl (by exact fc_agg_41_3) (by rfl)) ?_
   refine rp 1 rfl ?_
   refine Wc (co_fn rfl rfl) (table_To tc t (l[j]) ok.may ok.bt hop) ?_
   rintro v34 _ ⟨dv, d, rfl, rfl, hdl, hd⟩
   try dsimp only [ca, na]
   refine rp 5 rfl ?_
   refine Sn (Aw (Sq (Rg ?_)))
   refine rp 1 rfl ?_
   refine Wp (po_len rfl (by exact fc_slice_35_3_1)) ?_
   refine rp 1 rfl ?_
   refine Sn (Aw (Bk ?_))
   refine r_loop (S := Nat × List Int) (fun ⟨i, out2⟩ => [(39, .int .i64 i)]) [(1, _), (2, _), (6, _), (7, _), (8, _), (10, _), (24, _), (25, _), (26, _), (37, _), (38, _)] (fun ⟨i, out2⟩ => [Sl eI dv d, Sl eI v23 out2, Sl eI lv l, Blk b2 41 [.int .i64 t.w, .int .i64 t.h, tc], Sl eB tc t.c, F]) (fun ⟨i, out2⟩ => i ≤ l.length ∧ out2.length = l.length * l.length ∧ (∀ j', j' < j → Col t l out2 j') ∧ ∀ i' y, i' < i → l[i']? = some y → out2[i' * l.length + j]? = some (gAt d y)) (fun ⟨i, out2⟩ => l.length - i) ((0, out)) (And.intro rfl (And.intro rfl (And.intro rfl (And.intro rfl (And.intro rfl (And.intro rfl (And.intro rfl (And.intro rfl (And.intro rfl (And.intro rfl (And.intro rfl (trivial)))))))))))) (And.intro rfl (trivial)) (⟨by omega, hol, hcol, fun i' y h => by omega⟩) ent ?_
   rintro ⟨i, out2⟩ ⟨hi, hol2, hcol2, hrow⟩
   try dsimp only [ca, na]
   refine Sq (Rg ?_)
   refine Wp (po_lt rfl rfl) ?_
   refine Sn (Aw (Sq ?_))
   refine Rc rfl ?_ ?_
   ·skip
    intro hil
    have hil' : i < l.length := by omega
    have hopi := ok.op _ (List.getElem_mem hil')
    have hopi0 := hopi.1
    have hopi1 := hopi.2.1
    have hopj := ok.op _ (List.getElem_mem (show (i : Int).toNat < l.length by omega))
    have hopj0 := hopj.1
    have hopj1 := hopj.2.1
    have hix := idx_lt hil' hjl'
    have hin : ((i : Int) * l.length + j) = ((i * l.length + j : Nat) : Int) := by simp
    have hi2 : 0 ≤ (i : Int) * l.length ∧ (i : Int) * l.length ≤ 1048576 := mul_1k (by omega) (by omega) (by omega) (by omega)
    have hdg : gAt d l[i] = d[l[i].toNat]'(by omega) := gAt_get (by omega)
    have hi3 : (i : Int) * l.length + j < out2.length := by rw [hol2, hin]; omega
    refine Sk (Aw (Sq (Bk (Sq (Rg ?_)))))
    refine rp 1 rfl ?_
    refine Wp (po_iaddr rfl rfl (by exact fc_slice_35_3_1) (by first | omega | (simp <;> omega)) (by first | omega | (simp <;> omega))) ?_
    refine Wp (po_load_sl rfl (List.getElem?_eq_getElem (by first | omega | (simp <;> omega))) (by exact fc_flat_3) (by rfl)) ?_
    refine rp 2 rfl ?_
    refine Sn (Aw (Rg ?_))
    refine rp 3 rfl ?_
    refine Wp (po_mul' rfl rfl (by omega) (by omega)) ?_
    refine rp 1 rfl ?_
    refine Wp (po_add' rfl rfl (by omega) (by omega)) ?_
    refine rp 2 rfl ?_
    refine Wp (po_iaddr rfl rfl (by exact fc_slice_35_3_1) (by first | omega | (simp <;> omega)) (by first | omega | (simp <;> omega))) ?_
    refine Wp (po_load_sl rfl (List.getElem?_eq_getElem (by first | omega | (simp <;> omega))) (by exact fc_flat_3) (by rfl)) ?_
    refine Wp (po_iaddr rfl rfl (by exact fc_slice_35_3_1) (by first | omega | (simp <;> omega)) (by first | omega | (simp <;> omega))) ?_
    refine Ws (so_store_sl rfl rfl (List.getElem?_eq_getElem (by first | omega | (simp <;> omega))) (by exact fc_flat_3) (by decide) (by rfl) (by rfl)) ?_
    refine Sn (Bn (Aw (Rg ?_)))
    refine Wp (po_add' rfl rfl (by omega) (by omega)) ?_
    refine rp 1 rfl ?_
    refine Sn ?_
    rw [hin]
    simp only [Int.toNat_natCast]
    rw [← hdg]
    exact at_again ((i + 1, out2.set (i * l.length + j) (gAt d l[i]))) (And.intro rfl (trivial)) (And.intro rfl (And.intro rfl (And.intro rfl (And.intro rfl (And.intro rfl (And.intro rfl (And.intro rfl (And.intro rfl (And.intro rfl (And.intro rfl (And.intro rfl (trivial)))))))))))) (⟨by omega, by simpa using hol2, fun j' h => (hcol2 j' h).set (by omega) hjl' (by omega), fun i' y h hy => by
      rw [List.getElem?_set]
      by_cases e : i = i'
      · subst e; rw [if_pos rfl, if_pos (by omega)]; rw [List.getElem?_eq_getElem hil'] at hy; cases hy; rfl
      · rw [if_neg (fun e2 => e (idx_ne hjl' hjl' e2).1)]; exact hrow i' y (by omega) hy⟩) (by omega) ent
   ·skip
    intro hil
    refine Ex' (Ax (Ax (Bh (Bn (Aw (Rg ?_))))))
    refine Wp (po_add' rfl rfl (by omega) (by omega)) ?_
    refine rp 1 rfl ?_
    refine Sn ?_
    exact at_again ((j + 1, out2)) (And.intro rfl (trivial)) (And.intro rfl (And.intro rfl (And.intro rfl (And.intro rfl (And.intro rfl (And.intro rfl (trivial))))))) (⟨by omega, hol2, fun j' h => by
      by_cases e : j' = j
      · subst e; exact ⟨l[j'], d, List.getElem?_eq_getElem hjl', hdl, hd, fun i' y hy => hrow i' y (by have := lt_of_get hy; omega) hy⟩
      · exact hcol2 j' (by omega)⟩) (by omega) ent
  ·skip
   intro hjl
   refine Ex' (Ax (Ax (Bh (Aw (Sq (Rg ?_))))))
   refine rp 3 rfl ?_
   refine Sn (Aw (Rt ?_))
   refine at_ret2 rfl (rv_tmp rfl) (rv_tmp rfl) ⟨_, ⟨v23, out, rfl, rfl, hol, fun j' h => hcol j' (by omega)⟩, ?_⟩
   try dsimp only [ca, na]
   exact ent
end Hd
end
section
namespace Hd
set_option maxRecDepth 100000
open Go

def marks (n : Nat) (f : Nat → Bool) : List Bool := (List.range n).map f
theorem marks_len (n : Nat) (f : Nat → Bool) : (marks n f).length = n := by simp [marks]
theorem marks_congr {n : Nat} {f f' : Nat → Bool} (h : ∀ l, l < n → f l = f' l) : marks n f = marks n f' := by
  unfold marks; exact List.map_congr_left fun l hl => h l (List.mem_range.1 hl)
theorem marks_set {n : Nat} (f : Nat → Bool) (i : Nat) : (marks n f).set i true = marks n (fun l => f l || decide (l = i)) := by
  unfold marks
  apply List.ext_getElem?
  intro j
  rw [List.getElem?_set]
  by_cases e : i = j
  · subst e
    by_cases hi : i < n <;> simp [hi]
  · have : ¬ j = i := fun x => e x.symm
    by_cases hj : j < n <;> simp [e, this, hj]
theorem marks_get {n : Nat} (f : Nat → Bool) (i : Nat) (h : i < (marks n f).length) : (marks n f)[i] = f i := by simp [marks]
theorem marks_0 (n : Nat) (f : Nat → Bool) (h : ∀ l, l < n → f l = false) : List.replicate n false = marks n f := by
  apply List.ext_getElem (by simp [marks])
  intro i h1 h2
  simp [marks]
  simp at h1
  rw [h i h1]

/-- does one of the first k sides lead over the edge? -/
def edgeTo (w h s : Int) (k l : Nat) : Bool := (List.range k).any fun j => decide (0 ≤ overN w h (globalN w h s l) j)
theorem edgeTo_succ (w h s : Int) (k l : Nat) : edgeTo w h s (k + 1) l = (edgeTo w h s k l || decide (0 ≤ overN w h (globalN w h s l) k)) := by simp [edgeTo, List.range_succ]
/-- 11.1: cells that have a cell of another sector beside them -/
def cellsTo (w h s : Int) (n : Nat) : List Int := ((List.range n).filter (edgeTo w h s 4)).map fun (l : Nat) => globalN w h s l
def cellsN (w h s : Int) : List Int := cellsTo w h s ((sizeN w h s).1 * (sizeN w h s).2).toNat
theorem cellsTo_succ (w h s : Int) (n : Nat) : cellsTo w h s (n + 1) = cellsTo w h s n ++ if edgeTo w h s 4 n = true then [globalN w h s n] else [] := by
  unfold cellsTo
  rw [List.range_succ, List.filter_append, List.map_append]
  congr 1
  by_cases e : edgeTo w h s 4 n = true <;> simp [e]
theorem cellsTo_len (w h s : Int) (n : Nat) : (cellsTo w h s n).length ≤ n := by
  unfold cellsTo; rw [List.length_map]
  exact Nat.le_trans (List.length_filter_le _ _) (by simp)
abbrev secN (w h s : Int) : Nat := ((sizeN w h s).1 * (sizeN w h s).2).toNat
theorem secN_eq (w h s : Int) : (secN w h s : Int) = (sizeN w h s).1 * (sizeN w h s).2 := Int.toNat_of_nonneg (Int.mul_nonneg (size_le w h s).1.1 (size_le w h s).2.1)

theorem marks_skip {w h s : Int} (hs : IsS w h s) {k : Nat} (hk : k < 4) {l0 : Int} (hl : l0 ∈ alongN (sizeN w h s).1 (sizeN w h s).2 k) (ho : ¬ 0 ≤ overN w h (globalN w h s l0) k) :
    marks (secN w h s) (edgeTo w h s k) = marks (secN w h s) (edgeTo w h s (k + 1)) := marks_congr fun l hl2 => by
  have hsn := secN_eq w h s
  rw [edgeTo_succ, decide_eq_false (fun e => ho ((over_along hs (by omega) hl (l := l) (by omega) (by omega)).1 e).2), Bool.or_false]
theorem marks_done {w h s : Int} (hs : IsS w h s) {k j : Nat} (hk : k < 4) {l0 : Int} (hl : l0 ∈ alongN (sizeN w h s).1 (sizeN w h s).2 k) (ho : 0 ≤ overN w h (globalN w h s l0) k) (hj : (alongN (sizeN w h s).1 (sizeN w h s).2 k).length ≤ j) :
    marks (secN w h s) (fun l => edgeTo w h s k l || decide ((l : Int) ∈ (alongN (sizeN w h s).1 (sizeN w h s).2 k).take j)) = marks (secN w h s) (edgeTo w h s (k + 1)) := marks_congr fun l hl2 => by
  have hsn := secN_eq w h s
  rw [edgeTo_succ, List.take_of_length_le hj]
  congr 1
  refine decide_eq_decide.2 ?_
  rw [over_along hs (by omega) hl (l := l) (by omega) (by omega)]
  exact ⟨fun e => ⟨e, ho⟩, fun e => e.1⟩
theorem marks_step {n : Nat} {f : Nat → Bool} {al : List Int} {j : Nat} (hj : j < al.length) (h0 : 0 ≤ al[j]) :
    (marks n (fun l => f l || decide ((l : Int) ∈ al.take j))).set (al[j]).toNat true = marks n (fun l => f l || decide ((l : Int) ∈ al.take (j + 1))) := by
  rw [marks_set]
  refine marks_congr fun l hl => ?_
  rw [Bool.or_assoc]
  congr 1
  rw [take_snoc al j hj, ← Bool.decide_or]
  refine decide_eq_decide.2 ?_
  rw [List.mem_append, List.mem_singleton]
  constructor
  · rintro (e | e)
    · exact .inl e
    · exact .inr (by omega)
  · rintro (e | e)
    · exact .inl e
    · exact .inr (by omega)

theorem border_Cells (w h s : Int) : Spec PP 68 #[.int .i64 w, .int .i64 h, .int .i64 s] [] (fun v M => M = [Sl eI v (cellsN w h s)]) := by
  have hz := size_le w h s
  have hmul := mul_1k (a := (sizeN w h s).1) (b := (sizeN w h s).2) (by omega) (by omega) (by omega) (by omega)
  have hn : (sizeN w h s).1 * (sizeN w h s).2 ≤ 256 := Int.le_trans (Int.mul_le_mul hz.1.2 hz.2.2 hz.2.1 (by omega)) (by omega)
  have hsn := secN_eq w h s
  refine spec_of (Go.Proofs.Tryz.func68) rfl rfl rfl (by exact fc_enters_68) ?_
  intro g F
  try dsimp only [ca, na, GridS.l, GridS.p]
  refine Sq (Rg ?_)
  refine rp 1 rfl ?_
  refine Sn (Aw (Sq (Rg ?_)))
  refine rp 3 rfl ?_
  refine Wc (co_fn rfl rfl) (where_Size w h s) ?_
  rintro v22 _ ⟨rfl, rfl⟩
  try dsimp only [ca, na, GridS.l, GridS.p]
  refine rp 5 rfl ?_
  refine Sn (Aw ?_)
  by_cases hs : IsS w h s
  ·skip
   refine Sq (Rg ?_)
   refine rp 2 rfl ?_
   refine Wp (po_mul' rfl rfl (by omega) (by omega)) ?_
   refine Wx (xo_make eT (false) rfl rfl (by exact fc_slice_136_4_1) (by exact fc_elem_4_1_1) (by exact fc_zero_4) rfl (by first | omega | (simp <;> omega)) (by first | omega | (simp <;> omega)) (by first | omega | (simp <;> omega))) ?_
   rintro v28 _ rfl
   refine rp 1 rfl ?_
   refine Sn (Aw (Sq (Sq (Rg ?_))))
   refine Wc (co_fn rfl rfl) (border_sides) ?_
   rintro v29 _ ⟨rfl, rfl⟩
   try dsimp only [ca, na, GridS.l, GridS.p]
   refine rp 1 rfl ?_
   refine Sn (Aw (Bk ?_))
   rw [marks_0 _ (edgeTo w h s 0) (fun l _ => rfl)]
   refine r_loop (S := Nat) (fun k => [(30, .int .i64 k)]) [(0, _), (1, _), (2, _), (7, _), (8, _), (9, _), (29, _)] (fun k => [Sl eT v28 (marks (secN w h s) (edgeTo w h s k)), F]) (fun k => k ≤ 4) (fun k => 4 - k) (0) (And.intro rfl (And.intro rfl (And.intro rfl (And.intro rfl (And.intro rfl (And.intro rfl (And.intro rfl (trivial)))))))) (And.intro rfl (trivial)) (by omega) ent ?_
   rintro k hk
   try dsimp only [ca, na, GridS.l, GridS.p]
   have hp := size_pos hs
   refine Sq (Rg ?_)
   refine Wp (po_lt rfl rfl) ?_
   refine Sn (Aw (Sq ?_))
   refine Rc rfl ?_ ?_
   ·skip
    intro hlt
    refine Sk (Aw (Sq (Bk (Sq (Rg ?_)))))
    refine Wp (po_index_arr rfl rfl (by exact fc_arr_107_4_3_1) (by exact fc_flat_3) (by omega) (by omega) (nth_sides (by omega))) ?_
    refine rp 1 rfl ?_
    refine Sn (Aw (Sq (Rg ?_)))
    refine rp 3 rfl ?_
    refine Wc (co_fn rfl rfl) (border_along (sizeN w h s).1 (sizeN w h s).2 k hz.1 hz.2) ?_
    rintro v36 _ rfl
    try dsimp only [ca, na, GridS.l, GridS.p]
    have hal := along_len (k := (k : Int)) (tw := (sizeN w h s).1) (th := (sizeN w h s).2) (by omega) (by omega) (by omega)
    have hab := along_lt (k := (k : Int)) (tw := (sizeN w h s).1) (th := (sizeN w h s).2) (by omega) (by omega) (by omega)
    have hl0 := List.getElem_mem (show (0 : Int).toNat < (alongN (sizeN w h s).1 (sizeN w h s).2 k).length by omega)
    refine rp 1 rfl ?_
    refine Sn (Aw (Sq (Sq (Rg ?_))))
    refine rp 1 rfl ?_
    refine Wp (po_len rfl (by exact fc_slice_35_3_1)) ?_
    refine Wp (po_eq rfl rfl) ?_
    refine Wp (po_bf (po_move rfl) (decide_eq_false (by omega))) ?_
    refine rp 6 rfl ?_
    refine Wp (po_iaddr rfl rfl (by exact fc_slice_35_3_1) (by first | omega | (simp <;> omega)) (by first | omega | (simp <;> omega))) ?_
    refine Wp (po_load_sl rfl (List.getElem?_eq_getElem (by first | omega | (simp <;> omega))) (by exact fc_flat_3) (by rfl)) ?_
    refine Wc (co_fn rfl rfl) (where_Global w h s _) ?_
    rintro v49 _ ⟨rfl, rfl⟩
    try dsimp only [ca, na, GridS.l, GridS.p]
    refine rp 1 rfl ?_
    refine Wc (co_fn rfl rfl) (border_over w h _ k) ?_
    rintro v51 _ ⟨rfl, rfl⟩
    try dsimp only [ca, na, GridS.l, GridS.p]
    refine Wp (po_lt rfl rfl) ?_
    refine rp 1 rfl ?_
    refine Sn (Aw ?_)
    refine Rc rfl ?_ ?_
    ·skip
     intro ho
     refine Ex' (Ax (Bh (Aw (Rg ?_))))
     refine Wp (po_add' rfl rfl (by omega) (by omega)) ?_
     refine rp 1 rfl ?_
     refine Sn ?_
     rw [marks_skip hs (by omega) hl0 (by omega)]
     exact at_again (k + 1) (And.intro rfl (trivial)) (And.intro rfl (And.intro rfl (And.intro rfl (And.intro rfl (And.intro rfl (And.intro rfl (And.intro rfl (trivial)))))))) (by omega) (by omega) ent
    ·skip
     intro ho
     have e0 : marks (secN w h s) (edgeTo w h s k) = marks (secN w h s) (fun l => edgeTo w h s k l || decide ((l : Int) ∈ (alongN (sizeN w h s).1 (sizeN w h s).2 k).take 0)) := marks_congr fun l _ => by simp
     refine Sk (Aw (Sq (Rg ?_)))
     refine rp 1 rfl ?_
     refine Wp (po_len rfl (by exact fc_slice_35_3_1)) ?_
     refine rp 1 rfl ?_
     refine Sn (Aw (Bk ?_))
     rw [e0]
     refine r_loop (S := Nat) (fun j => [(56, .int .i64 j)]) [(0, _), (1, _), (2, _), (7, _), (8, _), (9, _), (29, _), (30, _), (54, _), (55, _)] (fun j => [Sl eI v36 (alongN (sizeN w h s).1 (sizeN w h s).2 k), Sl eT v28 (marks (secN w h s) (fun l => edgeTo w h s k l || decide ((l : Int) ∈ (alongN (sizeN w h s).1 (sizeN w h s).2 k).take j))), F]) (fun j => j ≤ (alongN (sizeN w h s).1 (sizeN w h s).2 k).length) (fun j => (alongN (sizeN w h s).1 (sizeN w h s).2 k).length - j) (0) (And.intro rfl (And.intro rfl (And.intro rfl (And.intro rfl (And.intro rfl (And.intro rfl (And.intro rfl (And.intro rfl (And.intro rfl (And.intro rfl (trivial))))))))))) (And.intro rfl (trivial)) (by omega) ent ?_
     rintro j hj
     try dsimp only [ca, na, GridS.l, GridS.p]
     refine Sq (Rg ?_)
     refine Wp (po_lt rfl rfl) ?_
     refine Sn (Aw (Sq ?_))
     refine Rc rfl ?_ ?_
     ·skip
      intro hjl
      have hjb := hab _ (List.getElem_mem (show (j : Int).toNat < (alongN (sizeN w h s).1 (sizeN w h s).2 k).length by omega))
      have hml := marks_len (secN w h s) (fun l => edgeTo w h s k l || decide ((l : Int) ∈ (alongN (sizeN w h s).1 (sizeN w h s).2 k).take j))
      refine Sk (Aw (Sq (Bk (Sq (Rg ?_)))))
      refine Wp (po_iaddr rfl rfl (by exact fc_slice_35_3_1) (by first | omega | (simp <;> omega)) (by first | omega | (simp <;> omega))) ?_
      refine Wp (po_load_sl rfl (List.getElem?_eq_getElem (by first | omega | (simp <;> omega))) (by exact fc_flat_3) (by rfl)) ?_
      refine rp 1 rfl ?_
      refine Sn (Aw (Rg ?_))
      refine rp 2 rfl ?_
      refine Wp (po_iaddr rfl rfl (by exact fc_slice_136_4_1) (by first | omega | (simp <;> omega)) (by first | omega | (simp <;> omega))) ?_
      refine Ws (so_store_sl rfl rfl (List.getElem?_eq_getElem (by first | omega | (simp <;> omega))) (by exact fc_flat_4) (by decide) (by rfl) (by rfl)) ?_
      refine Sn (Bn (Aw (Rg ?_)))
      refine Wp (po_add' rfl rfl (by omega) (by omega)) ?_
      refine rp 1 rfl ?_
      refine Sn ?_
      simp only [Int.toNat_natCast] at hjb ⊢
      rw [marks_step (by omega) hjb.1]
      exact at_again (j + 1) (And.intro rfl (trivial)) (And.intro rfl (And.intro rfl (And.intro rfl (And.intro rfl (And.intro rfl (And.intro rfl (And.intro rfl (And.intro rfl (And.intro rfl (And.intro rfl (trivial))))))))))) (by omega) (by omega) ent
     ·skip
      intro hjl
      refine Ex' (Ax (Ax (Bh (Bn (Aw (Rg ?_))))))
      refine Wp (po_add' rfl rfl (by omega) (by omega)) ?_
      refine rp 1 rfl ?_
      refine Sn ?_
      rw [marks_done hs (by omega) hl0 (by omega) (by omega)]
      exact at_again (k + 1) (And.intro rfl (trivial)) (And.intro rfl (And.intro rfl (And.intro rfl (And.intro rfl (And.intro rfl (And.intro rfl (And.intro rfl (trivial)))))))) (by omega) (by omega) ent
   ·skip
    intro hlt
    have hk4 : k = 4 := by omega
    subst hk4
    have hml := marks_len (secN w h s) (edgeTo w h s 4)
    refine Ex' (Ax (Ax (Bh (Aw (Sq (Rg ?_))))))
    refine rp 1 rfl ?_
    refine Sn (Aw (Sq (Sq (Rg ?_))))
    refine rp 1 rfl ?_
    refine Wp (po_len rfl (by exact fc_slice_136_4_1)) ?_
    refine rp 1 rfl ?_
    refine Sn (Aw (Bk ?_))
    refine r_loop (S := Nat × Value × List Int) (fun ⟨i, ov, xs⟩ => [(15, ov), (67, .int .i64 i)]) [(0, _), (1, _), (2, _), (65, _), (66, _)] (fun ⟨i, ov, xs⟩ => [Sl eI ov xs, Sl eT v28 (marks (secN w h s) (edgeTo w h s 4)), F]) (fun ⟨i, ov, xs⟩ => i ≤ secN w h s ∧ xs = cellsTo w h s i) (fun ⟨i, ov, xs⟩ => secN w h s - i) ((0, .slice none 0 0, [])) (And.intro rfl (And.intro rfl (And.intro rfl (And.intro rfl (And.intro rfl (trivial)))))) (And.intro rfl (And.intro rfl (trivial))) (⟨by omega, rfl⟩) ent ?_
    rintro ⟨i, ov, xs⟩ ⟨hi, hxs⟩
    try dsimp only [ca, na, GridS.l, GridS.p]
    have hxl := cellsTo_len w h s i
    rw [← hxs] at hxl
    refine Sq (Rg ?_)
    refine Wp (po_lt rfl rfl) ?_
    refine Sn (Aw (Sq ?_))
    refine Rc rfl ?_ ?_
    ·skip
     intro hil
     refine Sk (Aw (Sq (Bk (Sq (Rg ?_)))))
     refine rp 1 rfl ?_
     refine Wp (po_iaddr rfl rfl (by exact fc_slice_136_4_1) (by first | omega | (simp <;> omega)) (by first | omega | (simp <;> omega))) ?_
     refine Wp (po_load_sl rfl (List.getElem?_eq_getElem (by first | omega | (simp <;> omega))) (by exact fc_flat_4) (by rfl)) ?_
     refine rp 2 rfl ?_
     refine Sn (Aw (Sq (Rg ?_)))
     refine rp 1 rfl ?_
     refine Sn (Aw ?_)
     refine Rc rfl ?_ ?_
     ·skip
      intro he
      refine Rg ?_
      refine rp 5 rfl ?_
      refine Wc (co_fn rfl rfl) (where_Global w h s i) ?_
      rintro v78 _ ⟨rfl, rfl⟩
      try dsimp only [ca, na, GridS.l, GridS.p]
      refine Wx (xo_bslice eI [_] rfl (by exact fc_slice_35_3_1) (by exact fc_elem_3_1_8) ⟨rfl, rfl, trivial⟩ rfl (by decide)) ?_
      rintro v79 _ rfl
      refine Wx (xo_append rfl rfl (by exact fc_slice_35_3_1) (by exact fc_slice_35_3_1) (by exact fc_elem_3_1_8) (by first | omega | (simp <;> omega)) (by first | omega | (simp <;> omega))) ?_
      rintro v80 _ rfl
      refine rp 1 rfl ?_
      refine Sn (Bn (Aw (Rg ?_)))
      refine Wp (po_add' rfl rfl (by omega) (by omega)) ?_
      refine rp 1 rfl ?_
      refine Sn ?_
      simp only [Int.toNat_natCast, marks_get] at he
      exact at_again ((i + 1, v80, xs ++ [globalN w h s i])) (And.intro rfl (And.intro rfl (trivial))) (And.intro rfl (And.intro rfl (And.intro rfl (And.intro rfl (And.intro rfl (trivial)))))) (⟨by omega, by rw [cellsTo_succ, if_pos he, hxs]⟩) (by omega) ent
     ·skip
      intro he
      refine Sk (Bn (Aw (Rg ?_)))
      refine Wp (po_add' rfl rfl (by omega) (by omega)) ?_
      refine rp 1 rfl ?_
      refine Sn ?_
      simp only [Int.toNat_natCast, marks_get] at he
      exact at_again ((i + 1, ov, xs)) (And.intro rfl (And.intro rfl (trivial))) (And.intro rfl (And.intro rfl (And.intro rfl (And.intro rfl (And.intro rfl (trivial)))))) (⟨by omega, by rw [cellsTo_succ, if_neg (by simpa using he), hxs, List.append_nil]⟩) (by omega) ent
    ·skip
     intro hil
     refine Ex' (Ax (Ax (Bh (Aw (Sq (Rg ?_))))))
     refine rp 2 rfl ?_
     refine Sn (Aw (Rt ?_))
     have e : xs = cellsN w h s := by rw [hxs, cellsN, show i = secN w h s by omega]
     subst e
     refine at_ret1 rfl (rv_tmp rfl) ⟨_, rfl, ?_⟩
     try dsimp only [ca, na, GridS.l, GridS.p]
     exact ent
  ·skip
   refine Sq (Rg ?_)
   refine rp 2 rfl ?_
   refine Wp (po_mul' rfl rfl (by omega) (by omega)) ?_
   refine Wx (xo_make eT (false) rfl rfl (by exact fc_slice_136_4_1) (by exact fc_elem_4_1_1) (by exact fc_zero_4) rfl (by first | omega | (simp <;> omega)) (by first | omega | (simp <;> omega)) (by first | omega | (simp <;> omega))) ?_
   rintro v28 _ rfl
   refine rp 1 rfl ?_
   refine Sn (Aw (Sq (Sq (Rg ?_))))
   refine Wc (co_fn rfl rfl) (border_sides) ?_
   rintro v29 _ ⟨rfl, rfl⟩
   try dsimp only [ca, na, GridS.l, GridS.p]
   have hsz : sizeN w h s = (0, 0) := by rw [sizeN, if_neg hs]
   rw [hsz]
   refine rp 1 rfl ?_
   refine Sn (Aw (Bk ?_))
   rw [show List.replicate ((0 : Int) * 0).toNat false = [] from rfl]
   refine r_loop (S := Nat) (fun k => [(30, .int .i64 k)]) [(0, _), (1, _), (2, _), (7, _), (8, _), (9, _), (29, _)] (fun k => [Sl eT v28 [], F]) (fun k => k ≤ 4) (fun k => 4 - k) (0) (And.intro rfl (And.intro rfl (And.intro rfl (And.intro rfl (And.intro rfl (And.intro rfl (And.intro rfl (trivial)))))))) (And.intro rfl (trivial)) (by omega) ent ?_
   rintro k hk
   try dsimp only [ca, na, GridS.l, GridS.p]
   refine Sq (Rg ?_)
   refine Wp (po_lt rfl rfl) ?_
   refine Sn (Aw (Sq ?_))
   refine Rc rfl ?_ ?_
   ·skip
    intro hlt
    refine Sk (Aw (Sq (Bk (Sq (Rg ?_)))))
    refine Wp (po_index_arr rfl rfl (by exact fc_arr_107_4_3_1) (by exact fc_flat_3) (by omega) (by omega) (nth_sides (by omega))) ?_
    refine rp 1 rfl ?_
    refine Sn (Aw (Sq (Rg ?_)))
    refine rp 3 rfl ?_
    refine Wc (co_fn rfl rfl) (border_along 0 0 k (by omega) (by omega)) ?_
    rintro v36 _ rfl
    try dsimp only [ca, na, GridS.l, GridS.p]
    have hal : (alongN 0 0 k).length = 0 := by unfold alongN; split <;> (try split) <;> (try split) <;> (try split) <;> simp
    refine rp 1 rfl ?_
    refine Sn (Aw (Sq (Sq (Rg ?_))))
    refine rp 1 rfl ?_
    refine Wp (po_len rfl (by exact fc_slice_35_3_1)) ?_
    refine Wp (po_eq rfl rfl) ?_
    refine Wp (po_bt (po_move rfl) (decide_eq_true (by omega))) ?_
    refine rp 13 rfl ?_
    refine Sn (Aw ?_)
    refine r_cond_t rfl rfl ?_
    refine Ex' (Ax (Bh (Aw (Rg ?_))))
    refine Wp (po_add' rfl rfl (by omega) (by omega)) ?_
    refine rp 1 rfl ?_
    refine Sn ?_
    exact at_again (k + 1) (And.intro rfl (trivial)) (And.intro rfl (And.intro rfl (And.intro rfl (And.intro rfl (And.intro rfl (And.intro rfl (And.intro rfl (trivial)))))))) (by omega) (by omega) ent
   ·skip
    intro hlt
    refine Ex' (Ax (Ax (Bh (Aw (Sq (Rg ?_))))))
    refine rp 1 rfl ?_
    refine Sn (Aw (Sq (Sq (Rg ?_))))
    refine rp 1 rfl ?_
    refine Wp (po_len rfl (by exact fc_slice_136_4_1)) ?_
    refine rp 1 rfl ?_
    refine Sn (Aw (Bk ?_))
    refine r_loop (S := Nat) (fun i => [(15, .slice none 0 0), (67, .int .i64 i)]) [(0, _), (1, _), (2, _), (65, _), (66, _)] (fun i => [Sl eT v28 [], F]) (fun i => i = 0) (fun i => 0) (0) (And.intro rfl (And.intro rfl (And.intro rfl (And.intro rfl (And.intro rfl (trivial)))))) (And.intro rfl (And.intro rfl (trivial))) (rfl) ent ?_
    rintro i hi
    try dsimp only [ca, na, GridS.l, GridS.p]
    refine Sq (Rg ?_)
    refine Wp (po_lt rfl rfl) ?_
    refine Sn (Aw (Sq ?_))
    first | refine r_dec_f rfl (by subst hi; simp) ?_ | refine r_nd_f rfl (by subst hi; simp) ?_ | refine r_cond_f rfl (by subst hi; simp) ?_
    refine Ex' (Ax (Ax (Bh (Aw (Sq (Rg ?_))))))
    refine rp 2 rfl ?_
    refine Sn (Aw (Rt ?_))
    have e : [] = cellsN w h s := by rw [cellsN, hsz]; rfl
    subst hi
    refine at_ret1 rfl (rv_tmp rfl) ⟨_, (by rw [← e]), ?_⟩
    try dsimp only [ca, na, GridS.l, GridS.p]
    exact ent
end Hd
end
section
namespace Hd
set_option maxRecDepth 100000
open Go

theorem cells_len (w h s : Int) : (cellsN w h s).length ≤ 256 := by
  have hz := size_le w h s
  have hn : (sizeN w h s).1 * (sizeN w h s).2 ≤ 256 := Int.le_trans (Int.mul_le_mul hz.1.2 hz.2.2 hz.2.1 (by omega)) (by omega)
  have := cellsTo_len w h s ((sizeN w h s).1 * (sizeN w h s).2).toNat
  unfold cellsN; omega
/-- 11.1: those of them that are no walls -/
def nodesN (w h : Int) (c : List Int) (s : Int) : List Int := (cellsN w h s).filter fun i => decide (openN c i)
theorem nodes_len (w h : Int) (c : List Int) (s : Int) : (nodesN w h c s).length ≤ 256 := Nat.le_trans (List.length_filter_le _ _) (cells_len w h s)
theorem filter_snoc {α : Type} (p : α → Bool) (l : List α) (k : Nat) (h : k < l.length) : (l.take (k + 1)).filter p = (l.take k).filter p ++ if p l[k] = true then [l[k]] else [] := by
  rw [take_snoc l k h, List.filter_append]
  congr 1
  by_cases e : p l[k] = true <;> simp [e]

theorem border_Nodes (s : GridS) (i : Int) (hc : Bytes s.c) : Spec PP 41 #[s.p, .int .i64 i] s.l (fun v M => M = s.l ++ [Sl eI v (nodesN s.w s.h s.c i)]) := by
  have hcl := cells_len s.w s.h i
  refine spec_of (Go.Proofs.Tryz.func41) rfl rfl rfl (by exact fc_enters_41) ?_
  intro g F
  try dsimp only [ca, na, GridS.l, GridS.p]
  refine Sq (Rg ?_)
  refine rp 1 rfl ?_
  refine Sn (Aw (Sq (Rg ?_)))
  refine rp 1 rfl ?_
  refine Wc (co_fn rfl rfl) (grid_Size s) ?_
  rintro v12 _ ⟨rfl, rfl⟩
  try dsimp only [ca, na, GridS.l, GridS.p]
  refine rp 5 rfl ?_
  refine Sn (Aw (Sq (Rg ?_)))
  refine rp 1 rfl ?_
  refine Sn (Aw (Sq (Sq (Rg ?_))))
  refine rp 3 rfl ?_
  refine Wc (co_fn rfl rfl) (border_Cells s.w s.h i) ?_
  rintro v18 _ rfl
  try dsimp only [ca, na, GridS.l, GridS.p]
  refine Wp (po_len rfl (by exact fc_slice_35_3_1)) ?_
  refine rp 1 rfl ?_
  refine Sn (Aw (Bk ?_))
  refine r_loop (S := Nat × Value × List Int) (fun ⟨k, ov, xs⟩ => [(7, ov), (20, .int .i64 k)]) [(0, _), (18, _), (19, _)] (fun ⟨k, ov, xs⟩ => [Blk s.b 81 [.int .i64 s.w, .int .i64 s.h, s.cv, .int .i64 s.ep, s.vv], Sl eB s.cv s.c, Sl eL s.vv s.vs, Sl eI v18 (cellsN s.w s.h i), Sl eI ov xs, F]) (fun ⟨k, ov, xs⟩ => k ≤ (cellsN s.w s.h i).length ∧ xs = ((cellsN s.w s.h i).take k).filter fun i => decide (openN s.c i)) (fun ⟨k, ov, xs⟩ => (cellsN s.w s.h i).length - k) ((0, .slice none 0 0, [])) (And.intro rfl (And.intro rfl (And.intro rfl (trivial)))) (And.intro rfl (And.intro rfl (trivial))) (⟨by omega, rfl⟩) ent ?_
  rintro ⟨k, ov, xs⟩ ⟨hk, hxs⟩
  try dsimp only [ca, na, GridS.l, GridS.p]
  have hxl : xs.length ≤ 256 := by rw [hxs]; exact Nat.le_trans (List.length_filter_le _ _) (Nat.le_trans (List.length_take_le _ _) (by omega))
  refine Sq (Rg ?_)
  refine Wp (po_lt rfl rfl) ?_
  refine Sn (Aw (Sq ?_))
  refine Rc rfl ?_ ?_
  ·skip
   intro hlt
   refine Sk (Aw (Sq (Bk (Sq (Rg ?_)))))
   refine Wp (po_iaddr rfl rfl (by exact fc_slice_35_3_1) (by first | omega | (simp <;> omega)) (by first | omega | (simp <;> omega))) ?_
   refine Wp (po_load_sl rfl (List.getElem?_eq_getElem (by first | omega | (simp <;> omega))) (by exact fc_flat_3) (by rfl)) ?_
   refine rp 1 rfl ?_
   refine Sn (Aw (Sq (Rg ?_)))
   refine rp 2 rfl ?_
   refine Wc (co_fn rfl rfl) (border_open s _ hc) ?_
   rintro v26 _ ⟨rfl, rfl⟩
   try dsimp only [ca, na, GridS.l, GridS.p]
   refine Sn (Aw ?_)
   refine Rc rfl ?_ ?_
   ·skip
    intro ho
    refine Rg ?_
    refine rp 2 rfl ?_
    refine Wx (xo_bslice eI [_] rfl (by exact fc_slice_35_3_1) (by exact fc_elem_3_1_8) ⟨rfl, rfl, trivial⟩ rfl (by decide)) ?_
    rintro v29 _ rfl
    refine Wx (xo_append rfl rfl (by exact fc_slice_35_3_1) (by exact fc_slice_35_3_1) (by exact fc_elem_3_1_8) (by first | omega | (simp <;> omega)) (by first | omega | (simp <;> omega))) ?_
    rintro v30 _ rfl
    refine rp 1 rfl ?_
    refine Sn (Bn (Aw (Rg ?_)))
    refine Wp (po_add' rfl rfl (by omega) (by omega)) ?_
    refine rp 1 rfl ?_
    refine Sn ?_
    simp only [Int.toNat_natCast]
    exact at_again ((k + 1, v30, xs ++ [(cellsN s.w s.h i)[k]'(by omega)])) (And.intro rfl (And.intro rfl (trivial))) (And.intro rfl (And.intro rfl (And.intro rfl (trivial)))) (⟨by omega, by rw [filter_snoc _ _ k (by omega), if_pos (by simpa using ho), hxs]⟩) (by omega) ent
   ·skip
    intro ho
    refine Sk (Bn (Aw (Rg ?_)))
    refine Wp (po_add' rfl rfl (by omega) (by omega)) ?_
    refine rp 1 rfl ?_
    refine Sn ?_
    exact at_again ((k + 1, ov, xs)) (And.intro rfl (And.intro rfl (trivial))) (And.intro rfl (And.intro rfl (And.intro rfl (trivial)))) (⟨by omega, by rw [filter_snoc _ _ k (by omega), if_neg (by simpa using ho), hxs, List.append_nil]⟩) (by omega) ent
  ·skip
   intro hlt
   refine Ex' (Ax (Ax (Bh (Aw (Sq (Rg ?_))))))
   refine rp 2 rfl ?_
   refine Sn (Aw (Rt ?_))
   have e : xs = nodesN s.w s.h s.c i := by rw [hxs, nodesN, List.take_of_length_le (by omega)]
   subst e
   refine at_ret1 rfl (rv_tmp rfl) ⟨_, rfl, ?_⟩
   try dsimp only [ca, na, GridS.l, GridS.p]
   exact ent

/-- 11.2: the ways from a cell into other sectors -/
def crossTo (w h : Int) (c : List Int) (cell : Int) (k : Nat) : List Edg := (List.range k).flatMap fun (j : Nat) => if 0 ≤ overN w h cell j ∧ openN c (overN w h cell j) then [⟨overN w h cell j, costN c (overN w h cell j)⟩] else []
theorem crossTo_succ (w h : Int) (c : List Int) (cell : Int) (k : Nat) : crossTo w h c cell (k + 1) = crossTo w h c cell k ++ if 0 ≤ overN w h cell k ∧ openN c (overN w h cell k) then [⟨overN w h cell k, costN c (overN w h cell k)⟩] else [] := by simp [crossTo, List.range_succ]
theorem crossTo_len (w h : Int) (c : List Int) (cell : Int) : ∀ k : Nat, (crossTo w h c cell k).length ≤ k
  | 0 => by simp [crossTo]
  | k + 1 => by
    rw [crossTo_succ, List.length_append]
    have := crossTo_len w h c cell k
    split <;> simp <;> omega
def crossN (w h : Int) (c : List Int) (cell : Int) : List Edg := if openN c cell then crossTo w h c cell 4 else []

theorem border_Cross (s : GridS) (i : Int) (hc : Bytes s.c) : Spec PP 42 #[s.p, .int .i64 i] s.l (fun v M => M = s.l ++ [Sl eE v (crossN s.w s.h s.c i)]) := by
  refine spec_of (Go.Proofs.Tryz.func42) rfl rfl rfl (by exact fc_enters_42) ?_
  intro g F
  try dsimp only [ca, na, GridS.l, GridS.p]
  refine Sq (Rg ?_)
  refine rp 1 rfl ?_
  refine Sn (Aw (Sq (Rg ?_)))
  refine rp 1 rfl ?_
  refine Wc (co_fn rfl rfl) (grid_Size s) ?_
  rintro v13 _ ⟨rfl, rfl⟩
  try dsimp only [ca, na, GridS.l, GridS.p]
  refine rp 5 rfl ?_
  refine Sn (Aw (Sq (Sq (Rg ?_))))
  refine rp 2 rfl ?_
  refine Wc (co_fn rfl rfl) (border_open s i hc) ?_
  rintro v18 _ ⟨rfl, rfl⟩
  try dsimp only [ca, na, GridS.l, GridS.p]
  refine Wp (po_not rfl) ?_
  refine Sn (Aw ?_)
  refine Rc rfl ?_ ?_
  ·skip
   intro ho
   refine Sq (Rg ?_)
   refine rp 1 rfl ?_
   refine Sn (Aw (Rt (Ar ?_)))
   have e : [] = crossN s.w s.h s.c i := by rw [crossN, if_neg ho]
   refine at_ret1 rfl (rv_tmp rfl) ⟨_, (by rw [← e]), ?_⟩
   try dsimp only [ca, na, GridS.l, GridS.p]
   exact ent
  ·skip
   intro ho
   refine Sk (Aw (Sq (Rg ?_)))
   refine rp 1 rfl ?_
   refine Sn (Aw (Sq (Sq (Rg ?_))))
   refine Wc (co_fn rfl rfl) (border_sides) ?_
   rintro v20 _ ⟨rfl, rfl⟩
   try dsimp only [ca, na, GridS.l, GridS.p]
   refine rp 1 rfl ?_
   refine Sn (Aw (Bk ?_))
   refine r_loop (S := Nat × Value × List Edg) (fun ⟨k, ov, xs⟩ => [(7, ov), (21, .int .i64 k)]) [(0, _), (1, _), (5, _), (6, _), (20, _)] (fun ⟨k, ov, xs⟩ => [Blk s.b 81 [.int .i64 s.w, .int .i64 s.h, s.cv, .int .i64 s.ep, s.vv], Sl eB s.cv s.c, Sl eL s.vv s.vs, Sl eE ov xs, F]) (fun ⟨k, ov, xs⟩ => k ≤ 4 ∧ xs = crossTo s.w s.h s.c i k) (fun ⟨k, ov, xs⟩ => 4 - k) ((0, .slice none 0 0, [])) (And.intro rfl (And.intro rfl (And.intro rfl (And.intro rfl (And.intro rfl (trivial)))))) (And.intro rfl (And.intro rfl (trivial))) (⟨by omega, rfl⟩) ent ?_
   rintro ⟨k, ov, xs⟩ ⟨hk, hxs⟩
   try dsimp only [ca, na, GridS.l, GridS.p]
   have hxl := crossTo_len s.w s.h s.c i k
   rw [← hxs] at hxl
   refine Sq (Rg ?_)
   refine Wp (po_lt rfl rfl) ?_
   refine Sn (Aw (Sq ?_))
   refine Rc rfl ?_ ?_
   ·skip
    intro hlt
    refine Sk (Aw (Sq (Bk (Sq (Rg ?_)))))
    refine Wp (po_index_arr rfl rfl (by exact fc_arr_107_4_3_1) (by exact fc_flat_3) (by omega) (by omega) (nth_sides (by omega))) ?_
    refine rp 1 rfl ?_
    refine Sn (Aw (Sq (Rg ?_)))
    refine rp 4 rfl ?_
    refine Wc (co_fn rfl rfl) (border_over s.w s.h i k) ?_
    rintro v28 _ ⟨rfl, rfl⟩
    try dsimp only [ca, na, GridS.l, GridS.p]
    refine rp 1 rfl ?_
    refine Sn (Aw (Sq (Rg ?_)))
    refine rp 1 rfl ?_
    refine Wp (po_ge rfl rfl) ?_
    by_cases h1 : 0 ≤ overN s.w s.h i k
    ·skip
     refine ws (st_po (po_bt (po_move rfl) (decide_eq_true h1)) rfl rfl rfl ?_)
     refine rp 2 rfl ?_
     refine Wc (co_fn rfl rfl) (border_open s (overN s.w s.h i k) hc) ?_
     rintro v34 _ ⟨rfl, rfl⟩
     try dsimp only [ca, na, GridS.l, GridS.p]
     refine rp 1 rfl ?_
     refine Sn (Aw ?_)
     refine Rc rfl ?_ ?_
     ·skip
      intro h2
      refine Rg ?_
      refine rp 4 rfl ?_
      refine Wc (co_fn rfl rfl) (grid_Cost s (overN s.w s.h i k) hc) ?_
      rintro v40 _ ⟨rfl, rfl⟩
      try dsimp only [ca, na, GridS.l, GridS.p]
      refine Wp (po_build1 rfl (by exact fc_zero_76) (by exact fc_places_76_0_1) (by exact fc_info_76) rfl) ?_
      refine Wx (xo_bslice eE [⟨overN s.w s.h i k, costN s.c (overN s.w s.h i k)⟩] rfl (by exact fc_slice_73_76_2) (by exact fc_elem_76_2_16) ⟨rfl, rfl, trivial⟩ rfl (by decide)) ?_
      rintro v42 _ rfl
      refine Wx (xo_append rfl rfl (by exact fc_slice_73_76_2) (by exact fc_slice_73_76_2) (by exact fc_elem_76_2_16) (by first | omega | (simp <;> omega)) (by first | omega | (simp <;> omega))) ?_
      rintro v43 _ rfl
      refine rp 1 rfl ?_
      refine Sn (Bn (Aw (Rg ?_)))
      refine Wp (po_add' rfl rfl (by omega) (by omega)) ?_
      refine rp 1 rfl ?_
      refine Sn ?_
      exact at_again ((k + 1, v43, xs ++ [⟨overN s.w s.h i k, costN s.c (overN s.w s.h i k)⟩])) (And.intro rfl (And.intro rfl (trivial))) (And.intro rfl (And.intro rfl (And.intro rfl (And.intro rfl (And.intro rfl (trivial)))))) (⟨by omega, by rw [crossTo_succ, if_pos ⟨h1, h2⟩, hxs]⟩) (by omega) ent
     ·skip
      intro h2
      refine Sk (Bn (Aw (Rg ?_)))
      refine Wp (po_add' rfl rfl (by omega) (by omega)) ?_
      refine rp 1 rfl ?_
      refine Sn ?_
      exact at_again ((k + 1, ov, xs)) (And.intro rfl (And.intro rfl (trivial))) (And.intro rfl (And.intro rfl (And.intro rfl (And.intro rfl (And.intro rfl (trivial)))))) (⟨by omega, by rw [crossTo_succ, if_neg (fun h => h2 h.2), hxs, List.append_nil]⟩) (by omega) ent
    ·skip
     refine ws (st_po (po_bf (po_move rfl) (decide_eq_false h1)) rfl rfl rfl ?_)
     refine rp 4 rfl ?_
     refine Sn (Aw ?_)
     refine r_cond_f rfl rfl ?_
     refine Sk (Bn (Aw (Rg ?_)))
     refine Wp (po_add' rfl rfl (by omega) (by omega)) ?_
     refine rp 1 rfl ?_
     refine Sn ?_
     exact at_again ((k + 1, ov, xs)) (And.intro rfl (And.intro rfl (trivial))) (And.intro rfl (And.intro rfl (And.intro rfl (And.intro rfl (And.intro rfl (trivial)))))) (⟨by omega, by rw [crossTo_succ, if_neg (fun h => h1 h.1), hxs, List.append_nil]⟩) (by omega) ent
   ·skip
    intro hlt
    refine Ex' (Ax (Ax (Bh (Aw (Sq (Rg ?_))))))
    refine rp 2 rfl ?_
    refine Sn (Aw (Rt ?_))
    have e : xs = crossN s.w s.h s.c i := by rw [hxs, crossN, if_pos ho, show k = 4 by omega]
    subst e
    refine at_ret1 rfl (rv_tmp rfl) ⟨_, rfl, ?_⟩
    try dsimp only [ca, na, GridS.l, GridS.p]
    exact ent
end Hd
end
section
namespace Hd
def lessE (a b : Ent) : Prop := a.key < b.key ∨ (a.key = b.key ∧ a.item < b.item)
instance (a b : Ent) : Decidable (lessE a b) := by unfold lessE; infer_instance
def leE (a b : Ent) : Prop := ¬ lessE b a
theorem leE_refl (a : Ent) : leE a a := by unfold leE lessE; omega
theorem leE_trans {a b c : Ent} (h1 : leE a b) (h2 : leE b c) : leE a c := by unfold leE lessE at *; omega
theorem leE_of {a b : Ent} (h : lessE a b) : leE a b := by unfold leE lessE at *; omega
def lg (l : List Ent) (i : Nat) : Ent := l.getD i ⟨0, 0⟩
theorem lg_get {l : List Ent} {i : Nat} (h : i < l.length) : lg l i = l[i] := by simp [lg, h]
def swp (l : List Ent) (i p : Nat) : List Ent := (l.set i (lg l p)).set p (lg l i)
theorem swp_len (l : List Ent) (i p : Nat) : (swp l i p).length = l.length := by simp [swp]
theorem swp_get {l : List Ent} {i p j : Nat} (hi : i < l.length) (hp : p < l.length) : lg (swp l i p) j = if j = p then lg l i else if j = i then lg l p else lg l j := by
  unfold swp lg
  rw [List.getD_eq_getElem?_getD, List.getElem?_set, List.getElem?_set]
  by_cases e : p = j
  · subst e; simp [hp]
  · have e' : ¬ j = p := fun x => e x.symm
    by_cases e2 : i = j
    · subst e2; simp [e, e', hi]
    · have e2' : ¬ j = i := fun x => e2 x.symm
      simp [e, e', e2, e2']
theorem swp_perm {l : List Ent} {i p : Nat} (hi : i < l.length) (hp : p < l.length) : (swp l i p).Perm l := by
  unfold swp
  rw [lg_get hi, lg_get hp]
  exact List.set_set_perm hi hp

def HpL (l : List Ent) : Prop := ∀ j, 0 < j → j < l.length → leE (lg l ((j - 1) / 2)) (lg l j)
def UpI (l : List Ent) (i : Nat) : Prop := (∀ j, 0 < j → j < l.length → j ≠ i → leE (lg l ((j - 1) / 2)) (lg l j)) ∧ (0 < i → ∀ j, 0 < j → j < l.length → (j - 1) / 2 = i → leE (lg l ((i - 1) / 2)) (lg l j))
theorem up_step {l : List Ent} {i : Nat} (h : UpI l i) (h0 : 0 < i) (hi : i < l.length) (hl : lessE (lg l i) (lg l ((i - 1) / 2))) : UpI (swp l i ((i - 1) / 2)) ((i - 1) / 2) := by
  have hp : (i - 1) / 2 < l.length := by omega
  have hpi : (i - 1) / 2 < i := by omega
  refine ⟨fun j j0 jl jp => ?_, fun p0 j j0 jl jp => ?_⟩
  · rw [swp_len] at jl
    rw [swp_get hi hp, swp_get hi hp, if_neg jp]
    by_cases e : j = i
    · subst e; rw [if_pos rfl, if_pos rfl]; exact leE_of hl
    · rw [if_neg e]
      by_cases e2 : (j - 1) / 2 = (i - 1) / 2
      · rw [if_pos e2]; have := h.1 j j0 jl e; rw [e2] at this; exact leE_trans (leE_of hl) this
      · rw [if_neg e2]
        by_cases e3 : (j - 1) / 2 = i
        · rw [if_pos e3]; exact h.2 h0 j j0 jl e3
        · rw [if_neg e3]; exact h.1 j j0 jl e
  · rw [swp_len] at jl
    have h1 := h.1 ((i - 1) / 2) p0 hp (by omega)
    rw [swp_get hi hp, swp_get hi hp, if_neg (by omega), if_neg (by omega), if_neg (by omega)]
    by_cases e : j = i
    · rw [if_pos e]; exact h1
    · rw [if_neg e]; have h2 := h.1 j j0 jl e; rw [jp] at h2; exact leE_trans h1 h2
theorem up_end {l : List Ent} {i : Nat} (h : UpI l i) (he : i = 0 ∨ ¬ lessE (lg l i) (lg l ((i - 1) / 2))) : HpL l := fun j j0 jl => by
  by_cases e : j = i
  · subst e; rcases he with he | he
    · omega
    · exact he
  · exact h.1 j j0 jl e
theorem up_start {l : List Ent} (h : HpL l) (e : Ent) : UpI (l ++ [e]) l.length := by
  refine ⟨fun j j0 jl jn => ?_, fun i0 j j0 jl jp => ?_⟩
  · simp at jl
    have hj : j < l.length := by omega
    have hp : (j - 1) / 2 < l.length := by omega
    have := h j j0 hj
    rw [lg_get hj, lg_get hp] at this
    rw [lg_get (by simp; omega), lg_get (by simp; omega), List.getElem_append_left hp, List.getElem_append_left hj]; exact this
  · simp at jl; omega

def DnI (l : List Ent) (i : Nat) : Prop := (∀ j, 0 < j → j < l.length → (j - 1) / 2 ≠ i → leE (lg l ((j - 1) / 2)) (lg l j)) ∧ (0 < i → ∀ j, 0 < j → j < l.length → (j - 1) / 2 = i → leE (lg l ((i - 1) / 2)) (lg l j))
theorem dn_step {l : List Ent} {i m : Nat} (h : DnI l i) (h0 : 0 < m) (hm : m < l.length) (hp : (m - 1) / 2 = i) (hl : lessE (lg l m) (lg l i)) (hle : ∀ j, 0 < j → j < l.length → (j - 1) / 2 = i → leE (lg l m) (lg l j)) : DnI (swp l i m) m := by
  have hi : i < l.length := by omega
  refine ⟨fun j j0 jl jp => ?_, fun m0 j j0 jl jp => ?_⟩
  · rw [swp_len] at jl
    rw [swp_get hi hm, swp_get hi hm, if_neg jp]
    by_cases e : (j - 1) / 2 = i
    · rw [if_pos e]
      by_cases e2 : j = m
      · rw [if_pos e2]; exact leE_of hl
      · rw [if_neg e2, if_neg (by omega)]; exact hle j j0 jl e
    · rw [if_neg e, if_neg (by omega)]
      by_cases e2 : j = i
      · rw [if_pos e2, e2]; exact h.2 (by omega) m h0 hm hp
      · rw [if_neg e2]; exact h.1 j j0 jl e
  · rw [swp_len] at jl
    rw [swp_get hi hm, swp_get hi hm, hp, if_neg (by omega), if_pos rfl, if_neg (by omega), if_neg (by omega)]
    have := h.1 j j0 jl (by omega)
    rw [jp] at this; exact this
theorem dn_end {l : List Ent} {i : Nat} (h : DnI l i) (hle : ∀ j, 0 < j → j < l.length → (j - 1) / 2 = i → leE (lg l i) (lg l j)) : HpL l := fun j j0 jl => by
  by_cases e : (j - 1) / 2 = i
  · rw [e]; exact hle j j0 jl e
  · exact h.1 j j0 jl e
theorem heap_min {l : List Ent} (h : HpL l) : ∀ j, j < l.length → leE (lg l 0) (lg l j) := by
  intro j
  induction j using Nat.strongRecOn with
  | _ j ih =>
    intro hj
    by_cases e : j = 0
    · subst e; exact leE_refl _
    · exact leE_trans (ih ((j - 1) / 2) (by omega) (by omega)) (h j (by omega) hj)
/-- the last one goes to the first one's place -/
theorem dn_start {l : List Ent} (h : HpL l) (hl : 0 < l.length) : DnI ((l.set 0 (lg l (l.length - 1))).take (l.length - 1)) 0 := by
  refine ⟨fun j j0 jl jp => ?_, fun i0 => by omega⟩
  simp at jl
  have e : ∀ k, 0 < k → k < l.length - 1 → lg ((l.set 0 (lg l (l.length - 1))).take (l.length - 1)) k = lg l k := fun k k0 kl => by
    rw [lg_get (by simp; omega), List.getElem_take, List.getElem_set, if_neg (by omega)]; exact (lg_get (by omega)).symm
  rw [e j j0 (by omega), e _ (by omega) (by omega)]
  exact h j j0 (by omega)
theorem pop_perm {l : List Ent} (hl : 0 < l.length) : l.Perm (lg l 0 :: (l.set 0 (lg l (l.length - 1))).take (l.length - 1)) := by
  cases l with
  | nil => simp at hl
  | cons x xs =>
    rcases List.eq_nil_or_concat xs with e | ⟨ys, y, e⟩
    · subst e; simp [lg]
    · subst e
      have e1 : lg (x :: ys.concat y) ((x :: ys.concat y).length - 1) = y := by rw [lg_get (by simp)]; simp
      rw [e1]
      simp [lg]
end Hd
end
section
namespace Hd
set_option maxRecDepth 100000
open Go

abbrev entV (a : Ent) : Value := .agg #[.int .i64 a.key, .int .i64 a.item]
theorem ent_less (a b : Ent) : Spec PP 147 #[entV a, entV b] [] (fun v M => v = .bool (decide (lessE a b)) ∧ M = []) := by
  refine spec_of (Go.Proofs.Tryz.func147) rfl rfl rfl (by exact fc_enters_147) ?_
  intro g F
  try dsimp only [ca, na]
  refine Sq (Rg ?_)
  refine Wx (xo_box rfl rfl) ?_
  rintro _ _ ⟨b2, rfl, rfl⟩
  refine Wx (xo_box rfl rfl) ?_
  rintro _ _ ⟨b3, rfl, rfl⟩
  refine rp 1 rfl ?_
  refine Sn (Aw (Sq (Rg ?_)))
  refine Wp (po_faddr rfl (by exact fc_field_160_0_0)) ?_
  refine Wp (po_load rfl (by exact fc_flat_3) (by rfl)) ?_
  refine Wp (po_faddr rfl (by exact fc_field_160_0_0)) ?_
  refine Wp (po_load rfl (by exact fc_flat_3) (by rfl)) ?_
  refine Wp (po_lt rfl rfl) ?_
  by_cases h1 : a.key < b.key
  ·skip
   refine ws (st_po (po_bt (po_move rfl) (decide_eq_true h1)) rfl rfl rfl ?_)
   refine rp 14 rfl ?_
   refine Sn (Aw (Rt ?_))
   refine at_ret1 rfl (rv_tmp rfl) ⟨_, ⟨by rw [decide_eq_true (.inl h1)], rfl⟩, ?_⟩
   try dsimp only [ca, na]
   exact ent
  ·skip
   refine ws (st_po (po_bf (po_move rfl) (decide_eq_false h1)) rfl rfl rfl ?_)
   refine Wp (po_faddr rfl (by exact fc_field_160_0_0)) ?_
   refine Wp (po_load rfl (by exact fc_flat_3) (by rfl)) ?_
   refine Wp (po_faddr rfl (by exact fc_field_160_0_0)) ?_
   refine Wp (po_load rfl (by exact fc_flat_3) (by rfl)) ?_
   refine Wp (po_eq rfl rfl) ?_
   by_cases h2 : a.key = b.key
   ·skip
    refine ws (st_po (po_bt (po_move rfl) (decide_eq_true h2)) rfl rfl rfl ?_)
    refine Wp (po_faddr rfl (by exact fc_field_160_1_1)) ?_
    refine Wp (po_load rfl (by exact fc_flat_3) (by rfl)) ?_
    refine Wp (po_faddr rfl (by exact fc_field_160_1_1)) ?_
    refine Wp (po_load rfl (by exact fc_flat_3) (by rfl)) ?_
    refine Wp (po_lt rfl rfl) ?_
    refine rp 3 rfl ?_
    refine Sn (Aw (Rt ?_))
    refine at_ret1 rfl (rv_tmp rfl) ⟨_, ⟨by congr 1; refine decide_eq_decide.2 ?_; unfold lessE; omega, rfl⟩, ?_⟩
    try dsimp only [ca, na]
    exact ent
   ·skip
    refine ws (st_po (po_bf (po_move rfl) (decide_eq_false h2)) rfl rfl rfl ?_)
    refine rp 8 rfl ?_
    refine Sn (Aw (Rt ?_))
    refine at_ret1 rfl (rv_tmp rfl) ⟨_, ⟨by rw [decide_eq_false (by unfold lessE; omega)], rfl⟩, ?_⟩
    try dsimp only [ca, na]
    exact ent

theorem less_trans {a b c : Ent} (h1 : lessE a b) (h2 : lessE b c) : lessE a c := by unfold lessE at *; omega
abbrev heapL (b : Nat) (v : Value) (l : List Ent) : List HP := [Blk b 157 [v], Sl eH v l]
abbrev heapLF (F : HP) (b : Nat) (v : Value) (l : List Ent) : List HP := [Blk b 157 [v], Sl eH v l, F]
abbrev heapP (b : Nat) : Value := .pointer (some ⟨b, 0, none⟩)

theorem heap_up (b : Nat) (v : Value) (l : List Ent) (hl : l.length ≤ 2^40) (hi : UpI l (l.length - 1)) : Spec PP 119 #[heapP b] (heapL b v l) (fun r M => ∃ l', r = .tuple #[] ∧ M = heapL b v l' ∧ HpL l' ∧ l'.Perm l) := by
  refine spec_of (Go.Proofs.Tryz.func119) rfl rfl rfl (by exact fc_enters_119) ?_
  intro g F
  try dsimp only [ca, na, heapL, heapLF]
  refine Sq (Rg ?_)
  refine rp 2 rfl ?_
  refine Wp (po_faddr rfl (by exact fc_field_157_0_0)) ?_
  refine Wp (po_load rfl (by exact fc_flat_155) (by rfl)) ?_
  refine Wp (po_len rfl (by exact fc_slice_155_160_2)) ?_
  refine Wp (po_sub' rfl rfl (by omega) (by omega)) ?_
  refine rp 1 rfl ?_
  refine Sn (Aw (Bk ?_))
  refine r_loop (S := Int × List Ent) (fun ⟨i, l1⟩ => [(2, .int .i64 i)]) [(0, _)] (fun ⟨i, l1⟩ => heapLF F b v l1) (fun ⟨i, l1⟩ => -1 ≤ i ∧ i < l1.length ∧ l1.length = l.length ∧ l1.Perm l ∧ UpI l1 i.toNat ∧ (i = -1 → l.length = 0)) (fun ⟨i, l1⟩ => i.toNat) (((l.length : Int) - 1, l)) (And.intro rfl (trivial)) (And.intro rfl (trivial)) (⟨by omega, by omega, rfl, .rfl, by rw [show ((l.length : Int) - 1).toNat = l.length - 1 by omega]; exact hi, by omega⟩) ent ?_
  rintro ⟨i, l1⟩ ⟨hi1, hi2, hll, hpm, hup, hi0⟩
  try dsimp only [ca, na, heapL, heapLF]
  refine Sq (Sq (Rg ?_))
  refine rp 1 rfl ?_
  refine Wp (po_gt rfl rfl) ?_
  refine Sn (Aw ?_)
  refine Rc rfl ?_ ?_
  ·skip
   intro hgt
   refine Sk (Aw (Bk (Sq (Rg ?_))))
   refine rp 1 rfl ?_
   refine Wp (po_sub' rfl rfl (by omega) (by omega)) ?_
   refine Wp (po_quo' rfl rfl (by omega) (by omega) (by omega)) ?_
   refine rp 1 rfl ?_
   refine Sn (Aw (Sq (Sq ?_)))
   refine r_ord [] _ [(0, 1), (1, 1), (2, 1), (3, 0), (4, 1), (5, 0), (6, 0), (7, 1), (8, 1), (9, 1), (10, 0), (11, 1), (12, 0), (13, 0), (14, 2), (15, 1)] fc_mixed (by kernel_rfl) (fun _ h => h) ?_
   refine Of rfl (po_move rfl) ?_
   refine Of rfl (po_nil rfl) ?_
   refine Of rfl (po_faddr rfl (by exact fc_field_157_0_0)) ?_
   refine Or rfl (po_load rfl (by exact fc_flat_155) (by rfl)) ?_
   refine Of rfl (po_move rfl) ?_
   refine Or rfl (po_iaddr rfl rfl (by exact fc_slice_155_160_2) (by first | omega | (simp <;> omega)) (by first | omega | (simp <;> omega))) ?_
   refine Or rfl (ld_eH rfl (List.getElem?_eq_getElem (by first | omega | (simp <;> omega))) (by exact fc_agg_160_2)) ?_
   refine Of rfl (po_move rfl) ?_
   refine Of rfl (po_nil rfl) ?_
   refine Of rfl (po_faddr rfl (by exact fc_field_157_0_0)) ?_
   refine Or rfl (po_load rfl (by exact fc_flat_155) (by rfl)) ?_
   refine Of rfl (po_move rfl) ?_
   refine Or rfl (po_iaddr rfl rfl (by exact fc_slice_155_160_2) (by first | omega | (simp <;> omega)) (by first | omega | (simp <;> omega))) ?_
   refine Or rfl (ld_eH rfl (List.getElem?_eq_getElem (by first | omega | (simp <;> omega))) (by exact fc_agg_160_2)) ?_
   refine o_st rfl (st_call (co_fn rfl rfl) (ent_less (l1[i.toNat]'(by omega)) (l1[((i - 1) / 2).toNat]'(by omega))) (by infer_instance) rfl rfl rfl ?_)
   rintro v29 _ ⟨rfl, rfl⟩
   try dsimp only [ca, na, heapL, heapLF]
   refine ⟨fun _ => (by first | exact fun _ h => h | exact ent), ?_⟩
   refine Of rfl (po_not rfl) ?_
   refine o_nil ?_
   refine Aw ?_
   refine Rc rfl ?_ ?_
   ·skip
    intro hls
    refine Rt (Ar (Br (Ar (Br ?_))))
    refine at_ret0 rfl  ⟨_, ⟨l1, rfl, rfl, up_end hup (.inr (by rw [lg_get (by omega), lg_get (by omega)]; simp only [show (i.toNat - 1) / 2 = ((i - 1) / 2).toNat by omega]; exact hls)), hpm⟩, ?_⟩
    try dsimp only [ca, na, heapL, heapLF]
    exact ent
   ·skip
    intro hls
    refine Sk (Aw (Sq ?_))
    refine r_tree [25, 27] _ 28 fc_mixed (by kernel_rfl) (fun _ h => h) ?_
    refine t_fr (i := 0) (by kernel_rfl) rfl (po_move rfl) rfl rfl rfl ?_
    refine t_fr (i := 1) (by kernel_rfl) rfl (po_nil rfl) rfl rfl rfl ?_
    refine t_fr (i := 2) (by kernel_rfl) rfl (po_faddr rfl (by exact fc_field_157_0_0)) rfl rfl rfl ?_
    refine t_rd (i := 3) (by kernel_rfl) rfl (po_load rfl (by exact fc_flat_155) (by rfl)) (by first | exact fun _ h => h | exact ent) rfl rfl rfl ?_
    refine t_fr (i := 4) (by kernel_rfl) rfl (po_move rfl) rfl rfl rfl ?_
    refine t_fr (i := 5) (by kernel_rfl) rfl (po_move rfl) rfl rfl rfl ?_
    refine t_fr (i := 6) (by kernel_rfl) rfl (po_nil rfl) rfl rfl rfl ?_
    refine t_fr (i := 7) (by kernel_rfl) rfl (po_faddr rfl (by exact fc_field_157_0_0)) rfl rfl rfl ?_
    refine t_rd (i := 8) (by kernel_rfl) rfl (po_load rfl (by exact fc_flat_155) (by rfl)) (by first | exact fun _ h => h | exact ent) rfl rfl rfl ?_
    refine t_fr (i := 9) (by kernel_rfl) rfl (po_move rfl) rfl rfl rfl ?_
    refine t_fr (i := 10) (by kernel_rfl) rfl (po_move rfl) rfl rfl rfl ?_
    refine t_fr (i := 11) (by kernel_rfl) rfl (po_nil rfl) rfl rfl rfl ?_
    refine t_fr (i := 12) (by kernel_rfl) rfl (po_faddr rfl (by exact fc_field_157_0_0)) rfl rfl rfl ?_
    refine t_rd (i := 13) (by kernel_rfl) rfl (po_load rfl (by exact fc_flat_155) (by rfl)) (by first | exact fun _ h => h | exact ent) rfl rfl rfl ?_
    refine t_fr (i := 14) (by kernel_rfl) rfl (po_move rfl) rfl rfl rfl ?_
    refine t_rd (i := 15) (by kernel_rfl) rfl (po_iaddr rfl rfl (by exact fc_slice_155_160_2) (by first | omega | (simp <;> omega)) (by first | omega | (simp <;> omega))) (by first | exact fun _ h => h | exact ent) rfl rfl rfl ?_
    refine t_rd (i := 16) (by kernel_rfl) rfl (ld_eH rfl (List.getElem?_eq_getElem (by first | omega | (simp <;> omega))) (by exact fc_agg_160_2)) (by first | exact fun _ h => h | exact ent) rfl rfl rfl ?_
    refine t_fr (i := 17) (by kernel_rfl) rfl (po_move rfl) rfl rfl rfl ?_
    refine t_fr (i := 18) (by kernel_rfl) rfl (po_nil rfl) rfl rfl rfl ?_
    refine t_fr (i := 19) (by kernel_rfl) rfl (po_faddr rfl (by exact fc_field_157_0_0)) rfl rfl rfl ?_
    refine t_rd (i := 20) (by kernel_rfl) rfl (po_load rfl (by exact fc_flat_155) (by rfl)) (by first | exact fun _ h => h | exact ent) rfl rfl rfl ?_
    refine t_fr (i := 21) (by kernel_rfl) rfl (po_move rfl) rfl rfl rfl ?_
    refine t_rd (i := 22) (by kernel_rfl) rfl (po_iaddr rfl rfl (by exact fc_slice_155_160_2) (by first | omega | (simp <;> omega)) (by first | omega | (simp <;> omega))) (by first | exact fun _ h => h | exact ent) rfl rfl rfl ?_
    refine t_rd (i := 23) (by kernel_rfl) rfl (ld_eH rfl (List.getElem?_eq_getElem (by first | omega | (simp <;> omega))) (by exact fc_agg_160_2)) (by first | exact fun _ h => h | exact ent) rfl rfl rfl ?_
    refine t_rd (i := 24) (by kernel_rfl) rfl (po_iaddr rfl rfl (by exact fc_slice_155_160_2) (by first | omega | (simp <;> omega)) (by first | omega | (simp <;> omega))) (by first | exact fun _ h => h | exact ent) rfl rfl rfl ?_
    refine t_st (i := 25) (by kernel_rfl) rfl (st_so (st_eH rfl rfl (by first | omega | (simp <;> omega)) (by exact fc_agg_160_2)) rfl rfl ?_)
    refine ⟨fun h => late_no h (by kernel_rfl), ?_⟩
    refine t_st (i := 26) (by kernel_rfl) rfl (st_po (po_iaddr rfl rfl (by exact fc_slice_155_160_2) (by first | omega | (simp <;> omega)) (by first | omega | (simp <;> omega))) rfl rfl rfl ?_)
    refine ⟨fun h => late_no h (by kernel_rfl), ?_⟩
    refine t_st (i := 27) (by kernel_rfl) rfl (st_so (st_eH rfl rfl (by first | omega | (simp <;> omega)) (by exact fc_agg_160_2)) rfl rfl ?_)
    refine ⟨fun h => late_no h (by kernel_rfl), ?_⟩
    refine t_nil (by kernel_rfl) ?_
    refine Aw (Rg ?_)
    refine rp 2 rfl ?_
    refine Sn (Bn ?_)
    have e1 : (i.toNat - 1) / 2 = ((i - 1) / 2).toNat := by omega
    have e2 := lg_get (l := l1) (i := i.toNat) (by omega)
    have e3 := lg_get (l := l1) (i := ((i - 1) / 2).toNat) (by omega)
    rw [← e2, ← e3] at hls
    rw [← e2, ← e3, ← swp]
    exact at_again (((i - 1) / 2, swp l1 i.toNat ((i - 1) / 2).toNat)) (And.intro rfl (trivial)) (And.intro rfl (trivial)) (⟨by omega, by rw [swp_len]; omega, by rw [swp_len]; exact hll, (swp_perm (by omega) (by omega)).trans hpm, by rw [← e1]; exact up_step hup (by omega) (by omega) (by rw [e1]; exact hls), by omega⟩) (by omega) ent
  ·skip
   intro hgt
   refine Ex' (Ax (Ax (Bh ?_)))
   refine at_end0 rfl ⟨_, ⟨l1, rfl, rfl, up_end (i := i.toNat) hup (.inl (by omega)), hpm⟩, ?_⟩
   try dsimp only [ca, na, heapL, heapLF]
   exact ent

theorem heap_down (b : Nat) (v : Value) (l : List Ent) (hl : l.length ≤ 2^40) (hi : DnI l 0) : Spec PP 121 #[heapP b] (heapL b v l) (fun r M => ∃ l', r = .tuple #[] ∧ M = heapL b v l' ∧ HpL l' ∧ l'.Perm l) := by
  refine spec_of (Go.Proofs.Tryz.func121) rfl rfl rfl (by exact fc_enters_121) ?_
  intro g F
  try dsimp only [ca, na, heapL, heapLF]
  refine Sq (Rg ?_)
  refine rp 1 rfl ?_
  refine Sn (Aw (Bk ?_))
  refine r_loop (S := Int × List Ent) (fun ⟨i, l1⟩ => [(2, .int .i64 i)]) [(0, _)] (fun ⟨i, l1⟩ => heapLF F b v l1) (fun ⟨i, l1⟩ => 0 ≤ i ∧ (i < l1.length ∨ i = 0) ∧ l1.length = l.length ∧ l1.Perm l ∧ DnI l1 i.toNat) (fun ⟨i, l1⟩ => l.length - i.toNat) ((0, l)) (And.intro rfl (trivial)) (And.intro rfl (trivial)) (⟨by omega, .inr rfl, rfl, .rfl, hi⟩) ent ?_
  rintro ⟨i, l1⟩ ⟨hi1, hi2, hll, hpm, hdn⟩
  try dsimp only [ca, na, heapL, heapLF]
  refine Bk (Sq (Rg ?_))
  refine rp 2 rfl ?_
  refine Sn (Aw (Sq (Sq (Rg ?_))))
  refine rp 1 rfl ?_
  refine Wp (po_mul' rfl rfl (by omega) (by omega)) ?_
  refine Wp (po_add' rfl rfl (by omega) (by omega)) ?_
  refine rp 1 rfl ?_
  refine Sn (Aw (Bk ?_))
  refine r_loop (S := Int × Int) (fun ⟨m, k⟩ => [(3, .int .i64 m), (4, .int .i64 k)]) [(0, _), (2, _)] (fun ⟨m, k⟩ => heapLF F b v l1) (fun ⟨m, k⟩ => 2 * i + 1 ≤ k ∧ k ≤ 2 * i + 3 ∧ (m = i ∨ (2 * i + 1 ≤ m ∧ m < k ∧ m < l1.length ∧ lessE (lg l1 m.toNat) (lg l1 i.toNat))) ∧ ∀ j : Nat, 2 * i + 1 ≤ j → (j : Int) < k → j < l1.length → leE (lg l1 m.toNat) (lg l1 j)) (fun ⟨m, k⟩ => (2 * i + 3 - k).toNat) ((i, 2 * i + 1)) (And.intro rfl (And.intro rfl (trivial))) (And.intro rfl (And.intro rfl (trivial))) (⟨by omega, by omega, .inl rfl, fun j h1 h2 h3 => by omega⟩) ent ?_
  rintro ⟨m, k⟩ ⟨hk1, hk2, hm, hle⟩
  try dsimp only [ca, na, heapL, heapLF]
  refine Sq (Sq (Rg ?_))
  refine rp 2 rfl ?_
  refine Wp (po_mul' rfl rfl (by omega) (by omega)) ?_
  refine Wp (po_add' rfl rfl (by omega) (by omega)) ?_
  refine Wp (po_le rfl rfl) ?_
  by_cases hk3 : k ≤ 2 * i + 2
  ·skip
   refine ws (st_po (po_bt (po_move rfl) (decide_eq_true hk3)) rfl rfl rfl ?_)
   refine rp 3 rfl ?_
   refine Wp (po_faddr rfl (by exact fc_field_157_0_0)) ?_
   refine Wp (po_load rfl (by exact fc_flat_155) (by rfl)) ?_
   refine Wp (po_len rfl (by exact fc_slice_155_160_2)) ?_
   refine Wp (po_lt rfl rfl) ?_
   refine rp 1 rfl ?_
   refine Sn (Aw ?_)
   refine Rc rfl ?_ ?_
   ·skip
    intro hkl
    have hml : 0 ≤ m ∧ m < l1.length := by omega
    have e2 := lg_get (l := l1) (i := k.toNat) (by omega)
    have e3 := lg_get (l := l1) (i := m.toNat) (by omega)
    refine Sk (Aw (Sq (Bk (Sq ?_))))
    refine r_ord [] _ [(0, 1), (1, 1), (2, 1), (3, 0), (4, 1), (5, 0), (6, 0), (7, 1), (8, 1), (9, 1), (10, 0), (11, 1), (12, 0), (13, 0), (14, 2)] fc_mixed (by kernel_rfl) (fun _ h => h) ?_
    refine Of rfl (po_move rfl) ?_
    refine Of rfl (po_nil rfl) ?_
    refine Of rfl (po_faddr rfl (by exact fc_field_157_0_0)) ?_
    refine Or rfl (po_load rfl (by exact fc_flat_155) (by rfl)) ?_
    refine Of rfl (po_move rfl) ?_
    refine Or rfl (po_iaddr rfl rfl (by exact fc_slice_155_160_2) (by first | omega | (simp <;> omega)) (by first | omega | (simp <;> omega))) ?_
    refine Or rfl (ld_eH rfl (List.getElem?_eq_getElem (by first | omega | (simp <;> omega))) (by exact fc_agg_160_2)) ?_
    refine Of rfl (po_move rfl) ?_
    refine Of rfl (po_nil rfl) ?_
    refine Of rfl (po_faddr rfl (by exact fc_field_157_0_0)) ?_
    refine Or rfl (po_load rfl (by exact fc_flat_155) (by rfl)) ?_
    refine Of rfl (po_move rfl) ?_
    refine Or rfl (po_iaddr rfl rfl (by exact fc_slice_155_160_2) (by first | omega | (simp <;> omega)) (by first | omega | (simp <;> omega))) ?_
    refine Or rfl (ld_eH rfl (List.getElem?_eq_getElem (by first | omega | (simp <;> omega))) (by exact fc_agg_160_2)) ?_
    refine o_st rfl (st_call (co_fn rfl rfl) (ent_less (l1[k.toNat]'(by omega)) (l1[m.toNat]'(by omega))) (by infer_instance) rfl rfl rfl ?_)
    rintro v39 _ ⟨rfl, rfl⟩
    try dsimp only [ca, na, heapL, heapLF]
    refine ⟨fun _ => (by first | exact fun _ h => h | exact ent), ?_⟩
    refine o_nil ?_
    refine Aw ?_
    refine Rc rfl ?_ ?_
    ·skip
     intro hls
     refine Rg ?_
     refine rp 2 rfl ?_
     refine Sn (Bn (Aw (Rg ?_)))
     refine rp 1 rfl ?_
     refine Wp (po_add' rfl rfl (by omega) (by omega)) ?_
     refine rp 1 rfl ?_
     refine Sn ?_
     rw [← e2, ← e3] at hls
     exact at_again ((k, k + 1)) (And.intro rfl (And.intro rfl (trivial))) (And.intro rfl (And.intro rfl (trivial))) (⟨by omega, by omega, .inr ⟨by omega, by omega, by omega, by rcases hm with hm | hm; (rw [← hm]; exact hls); exact less_trans hls hm.2.2.2⟩, fun j h1 h2 h3 => by by_cases e : (j : Int) = k; (rw [show j = k.toNat by omega]; exact leE_refl _); exact leE_trans (leE_of hls) (hle j h1 (by omega) h3)⟩) (by omega) ent
    ·skip
     intro hls
     refine Sk (Bn (Aw (Rg ?_)))
     refine rp 1 rfl ?_
     refine Wp (po_add' rfl rfl (by omega) (by omega)) ?_
     refine rp 1 rfl ?_
     refine Sn ?_
     rw [← e2, ← e3] at hls
     exact at_again ((m, k + 1)) (And.intro rfl (And.intro rfl (trivial))) (And.intro rfl (And.intro rfl (trivial))) (⟨by omega, by omega, hm.imp id (fun h => ⟨h.1, by omega, h.2.2⟩), fun j h1 h2 h3 => by by_cases e : (j : Int) = k; (rw [show j = k.toNat by omega]; exact hls); exact hle j h1 (by omega) h3⟩) (by omega) ent
   ·skip
    intro hkl
    refine Ex' (Ax (Ax (Bh (Aw (Sq (Sq (Rg ?_)))))))
    refine rp 2 rfl ?_
    refine Wp (po_eq rfl rfl) ?_
    refine Sn (Aw ?_)
    refine Rc rfl ?_ ?_
    ·skip
     intro hmi
     refine Rt (Ar (Br (Ar (Br ?_))))
     refine at_ret0 rfl  ⟨_, ⟨l1, rfl, rfl, dn_end (i := i.toNat) hdn (fun j j0 jl jp => by rw [← hmi]; exact hle j (by omega) (by omega) jl), hpm⟩, ?_⟩
     try dsimp only [ca, na, heapL, heapLF]
     exact ent
    ·skip
     intro hmi
     have hml : 0 ≤ m ∧ m < l1.length ∧ i < l1.length := by omega
     have hms := hm.resolve_left hmi
     refine Sk (Aw (Sq ?_))
     refine r_tree [25, 27] _ 28 fc_mixed (by kernel_rfl) (fun _ h => h) ?_
     refine t_fr (i := 0) (by kernel_rfl) rfl (po_move rfl) rfl rfl rfl ?_
     refine t_fr (i := 1) (by kernel_rfl) rfl (po_nil rfl) rfl rfl rfl ?_
     refine t_fr (i := 2) (by kernel_rfl) rfl (po_faddr rfl (by exact fc_field_157_0_0)) rfl rfl rfl ?_
     refine t_rd (i := 3) (by kernel_rfl) rfl (po_load rfl (by exact fc_flat_155) (by rfl)) (by first | exact fun _ h => h | exact ent) rfl rfl rfl ?_
     refine t_fr (i := 4) (by kernel_rfl) rfl (po_move rfl) rfl rfl rfl ?_
     refine t_fr (i := 5) (by kernel_rfl) rfl (po_move rfl) rfl rfl rfl ?_
     refine t_fr (i := 6) (by kernel_rfl) rfl (po_nil rfl) rfl rfl rfl ?_
     refine t_fr (i := 7) (by kernel_rfl) rfl (po_faddr rfl (by exact fc_field_157_0_0)) rfl rfl rfl ?_
     refine t_rd (i := 8) (by kernel_rfl) rfl (po_load rfl (by exact fc_flat_155) (by rfl)) (by first | exact fun _ h => h | exact ent) rfl rfl rfl ?_
     refine t_fr (i := 9) (by kernel_rfl) rfl (po_move rfl) rfl rfl rfl ?_
     refine t_fr (i := 10) (by kernel_rfl) rfl (po_move rfl) rfl rfl rfl ?_
     refine t_fr (i := 11) (by kernel_rfl) rfl (po_nil rfl) rfl rfl rfl ?_
     refine t_fr (i := 12) (by kernel_rfl) rfl (po_faddr rfl (by exact fc_field_157_0_0)) rfl rfl rfl ?_
     refine t_rd (i := 13) (by kernel_rfl) rfl (po_load rfl (by exact fc_flat_155) (by rfl)) (by first | exact fun _ h => h | exact ent) rfl rfl rfl ?_
     refine t_fr (i := 14) (by kernel_rfl) rfl (po_move rfl) rfl rfl rfl ?_
     refine t_rd (i := 15) (by kernel_rfl) rfl (po_iaddr rfl rfl (by exact fc_slice_155_160_2) (by first | omega | (simp <;> omega)) (by first | omega | (simp <;> omega))) (by first | exact fun _ h => h | exact ent) rfl rfl rfl ?_
     refine t_rd (i := 16) (by kernel_rfl) rfl (ld_eH rfl (List.getElem?_eq_getElem (by first | omega | (simp <;> omega))) (by exact fc_agg_160_2)) (by first | exact fun _ h => h | exact ent) rfl rfl rfl ?_
     refine t_fr (i := 17) (by kernel_rfl) rfl (po_move rfl) rfl rfl rfl ?_
     refine t_fr (i := 18) (by kernel_rfl) rfl (po_nil rfl) rfl rfl rfl ?_
     refine t_fr (i := 19) (by kernel_rfl) rfl (po_faddr rfl (by exact fc_field_157_0_0)) rfl rfl rfl ?_
     refine t_rd (i := 20) (by kernel_rfl) rfl (po_load rfl (by exact fc_flat_155) (by rfl)) (by first | exact fun _ h => h | exact ent) rfl rfl rfl ?_
     refine t_fr (i := 21) (by kernel_rfl) rfl (po_move rfl) rfl rfl rfl ?_
     refine t_rd (i := 22) (by kernel_rfl) rfl (po_iaddr rfl rfl (by exact fc_slice_155_160_2) (by first | omega | (simp <;> omega)) (by first | omega | (simp <;> omega))) (by first | exact fun _ h => h | exact ent) rfl rfl rfl ?_
     refine t_rd (i := 23) (by kernel_rfl) rfl (ld_eH rfl (List.getElem?_eq_getElem (by first | omega | (simp <;> omega))) (by exact fc_agg_160_2)) (by first | exact fun _ h => h | exact ent) rfl rfl rfl ?_
     refine t_rd (i := 24) (by kernel_rfl) rfl (po_iaddr rfl rfl (by exact fc_slice_155_160_2) (by first | omega | (simp <;> omega)) (by first | omega | (simp <;> omega))) (by first | exact fun _ h => h | exact ent) rfl rfl rfl ?_
     refine t_st (i := 25) (by kernel_rfl) rfl (st_so (st_eH rfl rfl (by first | omega | (simp <;> omega)) (by exact fc_agg_160_2)) rfl rfl ?_)
     refine ⟨fun h => late_no h (by kernel_rfl), ?_⟩
     refine t_st (i := 26) (by kernel_rfl) rfl (st_po (po_iaddr rfl rfl (by exact fc_slice_155_160_2) (by first | omega | (simp <;> omega)) (by first | omega | (simp <;> omega))) rfl rfl rfl ?_)
     refine ⟨fun h => late_no h (by kernel_rfl), ?_⟩
     refine t_st (i := 27) (by kernel_rfl) rfl (st_so (st_eH rfl rfl (by first | omega | (simp <;> omega)) (by exact fc_agg_160_2)) rfl rfl ?_)
     refine ⟨fun h => late_no h (by kernel_rfl), ?_⟩
     refine t_nil (by kernel_rfl) ?_
     refine Aw (Rg ?_)
     refine rp 2 rfl ?_
     refine Sn (Bn ?_)
     have e2 := lg_get (l := l1) (i := i.toNat) (by omega)
     have e3 := lg_get (l := l1) (i := m.toNat) (by omega)
     rw [← e2, ← e3, ← swp]
     exact at_again ((m, swp l1 i.toNat m.toNat)) (And.intro rfl (trivial)) (And.intro rfl (trivial)) (⟨by omega, .inl (by rw [swp_len]; omega), by rw [swp_len]; exact hll, (swp_perm (by omega) (by omega)).trans hpm, dn_step hdn (by omega) (by omega) (by omega) hms.2.2.2 (fun j j0 jl jp => hle j (by omega) (by omega) jl)⟩) (by dsimp only; omega) ent
  ·skip
   refine ws (st_po (po_bf (po_move rfl) (decide_eq_false hk3)) rfl rfl rfl ?_)
   refine rp 8 rfl ?_
   refine Sn (Aw ?_)
   refine r_cond_f rfl rfl ?_
   refine Ex' (Ax (Ax (Bh (Aw (Sq (Sq (Rg ?_)))))))
   refine rp 2 rfl ?_
   refine Wp (po_eq rfl rfl) ?_
   refine Sn (Aw ?_)
   refine Rc rfl ?_ ?_
   ·skip
    intro hmi
    refine Rt (Ar (Br (Ar (Br ?_))))
    refine at_ret0 rfl  ⟨_, ⟨l1, rfl, rfl, dn_end (i := i.toNat) hdn (fun j j0 jl jp => by rw [← hmi]; exact hle j (by omega) (by omega) jl), hpm⟩, ?_⟩
    try dsimp only [ca, na, heapL, heapLF]
    exact ent
   ·skip
    intro hmi
    have hml : 0 ≤ m ∧ m < l1.length ∧ i < l1.length := by omega
    have hms := hm.resolve_left hmi
    refine Sk (Aw (Sq ?_))
    refine r_tree [25, 27] _ 28 fc_mixed (by kernel_rfl) (fun _ h => h) ?_
    refine t_fr (i := 0) (by kernel_rfl) rfl (po_move rfl) rfl rfl rfl ?_
    refine t_fr (i := 1) (by kernel_rfl) rfl (po_nil rfl) rfl rfl rfl ?_
    refine t_fr (i := 2) (by kernel_rfl) rfl (po_faddr rfl (by exact fc_field_157_0_0)) rfl rfl rfl ?_
    refine t_rd (i := 3) (by kernel_rfl) rfl (po_load rfl (by exact fc_flat_155) (by rfl)) (by first | exact fun _ h => h | exact ent) rfl rfl rfl ?_
    refine t_fr (i := 4) (by kernel_rfl) rfl (po_move rfl) rfl rfl rfl ?_
    refine t_fr (i := 5) (by kernel_rfl) rfl (po_move rfl) rfl rfl rfl ?_
    refine t_fr (i := 6) (by kernel_rfl) rfl (po_nil rfl) rfl rfl rfl ?_
    refine t_fr (i := 7) (by kernel_rfl) rfl (po_faddr rfl (by exact fc_field_157_0_0)) rfl rfl rfl ?_
    refine t_rd (i := 8) (by kernel_rfl) rfl (po_load rfl (by exact fc_flat_155) (by rfl)) (by first | exact fun _ h => h | exact ent) rfl rfl rfl ?_
    refine t_fr (i := 9) (by kernel_rfl) rfl (po_move rfl) rfl rfl rfl ?_
    refine t_fr (i := 10) (by kernel_rfl) rfl (po_move rfl) rfl rfl rfl ?_
    refine t_fr (i := 11) (by kernel_rfl) rfl (po_nil rfl) rfl rfl rfl ?_
    refine t_fr (i := 12) (by kernel_rfl) rfl (po_faddr rfl (by exact fc_field_157_0_0)) rfl rfl rfl ?_
    refine t_rd (i := 13) (by kernel_rfl) rfl (po_load rfl (by exact fc_flat_155) (by rfl)) (by first | exact fun _ h => h | exact ent) rfl rfl rfl ?_
    refine t_fr (i := 14) (by kernel_rfl) rfl (po_move rfl) rfl rfl rfl ?_
    refine t_rd (i := 15) (by kernel_rfl) rfl (po_iaddr rfl rfl (by exact fc_slice_155_160_2) (by first | omega | (simp <;> omega)) (by first | omega | (simp <;> omega))) (by first | exact fun _ h => h | exact ent) rfl rfl rfl ?_
    refine t_rd (i := 16) (by kernel_rfl) rfl (ld_eH rfl (List.getElem?_eq_getElem (by first | omega | (simp <;> omega))) (by exact fc_agg_160_2)) (by first | exact fun _ h => h | exact ent) rfl rfl rfl ?_
    refine t_fr (i := 17) (by kernel_rfl) rfl (po_move rfl) rfl rfl rfl ?_
    refine t_fr (i := 18) (by kernel_rfl) rfl (po_nil rfl) rfl rfl rfl ?_
    refine t_fr (i := 19) (by kernel_rfl) rfl (po_faddr rfl (by exact fc_field_157_0_0)) rfl rfl rfl ?_
    refine t_rd (i := 20) (by kernel_rfl) rfl (po_load rfl (by exact fc_flat_155) (by rfl)) (by first | exact fun _ h => h | exact ent) rfl rfl rfl ?_
    refine t_fr (i := 21) (by kernel_rfl) rfl (po_move rfl) rfl rfl rfl ?_
    refine t_rd (i := 22) (by kernel_rfl) rfl (po_iaddr rfl rfl (by exact fc_slice_155_160_2) (by first | omega | (simp <;> omega)) (by first | omega | (simp <;> omega))) (by first | exact fun _ h => h | exact ent) rfl rfl rfl ?_
    refine t_rd (i := 23) (by kernel_rfl) rfl (ld_eH rfl (List.getElem?_eq_getElem (by first | omega | (simp <;> omega))) (by exact fc_agg_160_2)) (by first | exact fun _ h => h | exact ent) rfl rfl rfl ?_
    refine t_rd (i := 24) (by kernel_rfl) rfl (po_iaddr rfl rfl (by exact fc_slice_155_160_2) (by first | omega | (simp <;> omega)) (by first | omega | (simp <;> omega))) (by first | exact fun _ h => h | exact ent) rfl rfl rfl ?_
    refine t_st (i := 25) (by kernel_rfl) rfl (st_so (st_eH rfl rfl (by first | omega | (simp <;> omega)) (by exact fc_agg_160_2)) rfl rfl ?_)
    refine ⟨fun h => late_no h (by kernel_rfl), ?_⟩
    refine t_st (i := 26) (by kernel_rfl) rfl (st_po (po_iaddr rfl rfl (by exact fc_slice_155_160_2) (by first | omega | (simp <;> omega)) (by first | omega | (simp <;> omega))) rfl rfl rfl ?_)
    refine ⟨fun h => late_no h (by kernel_rfl), ?_⟩
    refine t_st (i := 27) (by kernel_rfl) rfl (st_so (st_eH rfl rfl (by first | omega | (simp <;> omega)) (by exact fc_agg_160_2)) rfl rfl ?_)
    refine ⟨fun h => late_no h (by kernel_rfl), ?_⟩
    refine t_nil (by kernel_rfl) ?_
    refine Aw (Rg ?_)
    refine rp 2 rfl ?_
    refine Sn (Bn ?_)
    have e2 := lg_get (l := l1) (i := i.toNat) (by omega)
    have e3 := lg_get (l := l1) (i := m.toNat) (by omega)
    rw [← e2, ← e3, ← swp]
    exact at_again ((m, swp l1 i.toNat m.toNat)) (And.intro rfl (trivial)) (And.intro rfl (trivial)) (⟨by omega, .inl (by rw [swp_len]; omega), by rw [swp_len]; exact hll, (swp_perm (by omega) (by omega)).trans hpm, dn_step hdn (by omega) (by omega) (by omega) hms.2.2.2 (fun j j0 jl jp => hle j (by omega) (by omega) jl)⟩) (by dsimp only; omega) ent

theorem heap_New : Spec PP 93 #[] [] (fun r M => ∃ b, r = heapP b ∧ M = heapL b (.slice none 0 0) []) := by
  refine spec_of (Go.Proofs.Tryz.func93) rfl rfl rfl (by exact fc_enters_93) ?_
  intro g F
  try dsimp only [ca, na, heapL, heapLF]
  refine Sq (Rg ?_)
  refine rp 1 rfl ?_
  refine Sn (Aw (Sq (Rg ?_)))
  refine Wp (po_build1 rfl (by exact fc_zero_157) (by exact fc_places_157) (by exact fc_info_157) rfl) ?_
  refine Wx (xo_box rfl rfl) ?_
  rintro _ _ ⟨b2, rfl, rfl⟩
  refine rp 1 rfl ?_
  refine Sn (Aw (Rt ?_))
  refine at_ret1 rfl (rv_tmp rfl) ⟨_, ⟨_, rfl, rfl⟩, ?_⟩
  try dsimp only [ca, na, heapL, heapLF]
  exact ent
theorem heap_Push (b : Nat) (v : Value) (l : List Ent) (key item : Int) (hl : l.length ≤ 2^39) (hp : HpL l) : Spec PP 97 #[heapP b, .int .i64 key, .int .i64 item] (heapL b v l) (fun r M => ∃ v' l', r = .tuple #[] ∧ M = heapL b v' l' ∧ HpL l' ∧ l'.Perm (⟨key, item⟩ :: l)) := by
  refine spec_of (Go.Proofs.Tryz.func97) rfl rfl rfl (by exact fc_enters_97) ?_
  intro g F
  try dsimp only [ca, na, heapL, heapLF]
  refine Sq (Sq (Rg ?_))
  refine rp 1 rfl ?_
  refine Wp (po_peq rfl rfl (by exact fc_ptr_127)) ?_
  refine Sn (Aw ?_)
  refine r_cond_f rfl (rfl) ?_
  refine Sk (Aw (Sq (Rg ?_)))
  refine rp 3 rfl ?_
  refine Wp (po_faddr rfl (by exact fc_field_157_0_0)) ?_
  refine Wp (po_load rfl (by exact fc_flat_155) (by rfl)) ?_
  refine rp 2 rfl ?_
  refine Wp (po_build1 rfl (by exact fc_zero_160) (by exact fc_places_160_0_1) (by exact fc_info_160) rfl) ?_
  refine Wx (xo_bslice eH [⟨key, item⟩] rfl (by exact fc_slice_155_160_2) (by exact fc_elem_160_2_16) ⟨rfl, rfl, trivial⟩ rfl (by decide)) ?_
  rintro v16 _ rfl
  refine Wx (xo_append rfl rfl (by exact fc_slice_155_160_2) (by exact fc_slice_155_160_2) (by exact fc_elem_160_2_16) (by first | omega | (simp <;> omega)) (by first | omega | (simp <;> omega))) ?_
  rintro v17 _ rfl
  refine rp 1 rfl ?_
  refine Wp (po_faddr rfl (by exact fc_field_157_0_0)) ?_
  refine Ws (so_store1 rfl rfl (by exact fc_flat_155) rfl) ?_
  refine Sn (Aw (Rg ?_))
  refine rp 1 rfl ?_
  refine Wc (co_fn rfl rfl) (heap_up b v17 (l ++ [⟨key, item⟩]) (by simp; omega) (by simpa using up_start hp ⟨key, item⟩)) ?_
  rintro v21 _ ⟨l', rfl, rfl, hp', hpm⟩
  try dsimp only [ca, na, heapL, heapLF]
  refine Sn ?_
  refine at_end0 rfl ⟨_, ⟨v17, l', rfl, rfl, hp', hpm.trans List.perm_append_comm⟩, ?_⟩
  try dsimp only [ca, na, heapL, heapLF]
  exact ent
theorem heap_Len (b : Nat) (v : Value) (l : List Ent) : Spec PP 148 #[heapP b] (heapL b v l) (fun r M => r = .int .i64 l.length ∧ M = heapL b v l) := by
  refine spec_of (Go.Proofs.Tryz.func148) rfl rfl rfl (by exact fc_enters_148) ?_
  intro g F
  try dsimp only [ca, na, heapL, heapLF]
  refine Sq (Rg ?_)
  refine rp 1 rfl ?_
  refine Sn (Aw (Sq (Sq (Rg ?_))))
  refine rp 1 rfl ?_
  refine Wp (po_peq rfl rfl (by exact fc_ptr_127)) ?_
  refine Sn (Aw ?_)
  refine r_cond_f rfl (rfl) ?_
  refine Sk (Aw (Sq (Rg ?_)))
  refine rp 2 rfl ?_
  refine Wp (po_faddr rfl (by exact fc_field_157_0_0)) ?_
  refine Wp (po_load rfl (by exact fc_flat_155) (by rfl)) ?_
  refine Wp (po_len rfl (by exact fc_slice_155_160_2)) ?_
  refine rp 1 rfl ?_
  refine Sn (Aw (Rt ?_))
  refine at_ret1 rfl (rv_tmp rfl) ⟨_, ⟨rfl, rfl⟩, ?_⟩
  try dsimp only [ca, na, heapL, heapLF]
  exact ent
theorem heap_Top (b : Nat) (v : Value) (l : List Ent) (hl : 0 < l.length) : Spec PP 120 #[heapP b] (heapL b v l) (fun r M => r = .tuple #[.int .i64 (lg l 0).key, .int .i64 (lg l 0).item, .bool true] ∧ M = heapL b v l) := by
  refine spec_of (Go.Proofs.Tryz.func120) rfl rfl rfl (by exact fc_enters_120) ?_
  intro g F
  try dsimp only [ca, na, heapL, heapLF]
  refine Sq (Rg ?_)
  refine rp 3 rfl ?_
  refine Sn (Aw (Sq (Sq (Rg ?_))))
  refine rp 1 rfl ?_
  refine Wc (co_fn rfl rfl) (heap_Len b v l) ?_
  rintro v6 _ ⟨rfl, rfl⟩
  try dsimp only [ca, na, heapL, heapLF]
  refine Wp (po_eq rfl rfl) ?_
  refine Sn (Aw ?_)
  first | refine r_dec_f rfl (by omega) ?_ | refine r_nd_f rfl (by omega) ?_ | refine r_cond_f rfl (by omega) ?_
  refine Sk (Aw (Sq ?_))
  refine r_ord [] _ [(0, 1), (1, 1), (2, 1), (3, 0), (4, 0), (5, 0), (6, 0), (7, 1), (8, 1), (9, 1), (10, 0), (11, 0), (12, 0), (13, 0), (14, 1), (15, 1), (16, 1)] fc_mixed (by kernel_rfl) (fun _ h => h) ?_
  refine Of rfl (po_move rfl) ?_
  refine Of rfl (po_nil rfl) ?_
  refine Of rfl (po_faddr rfl (by exact fc_field_157_0_0)) ?_
  refine Or rfl (po_load rfl (by exact fc_flat_155) (by rfl)) ?_
  refine Or rfl (po_iaddr rfl rfl (by exact fc_slice_155_160_2) (by first | omega | (simp <;> omega)) (by first | omega | (simp <;> omega))) ?_
  refine Or rfl (po_faddr_sl rfl (by omega) (by exact fc_field_160_0_0)) ?_
  refine Or rfl (po_load_sl rfl (List.getElem?_eq_getElem (by first | omega | (simp <;> omega))) (by exact fc_flat_3) (by rfl)) ?_
  refine Of rfl (po_move rfl) ?_
  refine Of rfl (po_nil rfl) ?_
  refine Of rfl (po_faddr rfl (by exact fc_field_157_0_0)) ?_
  refine Or rfl (po_load rfl (by exact fc_flat_155) (by rfl)) ?_
  refine Or rfl (po_iaddr rfl rfl (by exact fc_slice_155_160_2) (by first | omega | (simp <;> omega)) (by first | omega | (simp <;> omega))) ?_
  refine Or rfl (po_faddr_sl rfl (by omega) (by exact fc_field_160_1_1)) ?_
  refine Or rfl (po_load_sl rfl (List.getElem?_eq_getElem (by first | omega | (simp <;> omega))) (by exact fc_flat_3) (by rfl)) ?_
  refine Of rfl (po_assign rfl) ?_
  refine Of rfl (po_assign rfl) ?_
  refine Of rfl (po_assign rfl) ?_
  refine o_nil ?_
  refine Aw (Rt ?_)
  refine at_ret3 rfl (rv_tmp rfl) (rv_tmp rfl) (rv_tmp rfl) ⟨_, ⟨by rw [lg_get hl]; rfl, rfl⟩, ?_⟩
  try dsimp only [ca, na, heapL, heapLF]
  exact ent
theorem heap_Top0 (b : Nat) (v : Value) : Spec PP 120 #[heapP b] (heapL b v []) (fun r M => r = .tuple #[.int .i64 0, .int .i64 0, .bool false] ∧ M = heapL b v []) := by
  refine spec_of (Go.Proofs.Tryz.func120) rfl rfl rfl (by exact fc_enters_120) ?_
  intro g F
  try dsimp only [ca, na, heapL, heapLF]
  refine Sq (Rg ?_)
  refine rp 3 rfl ?_
  refine Sn (Aw (Sq (Sq (Rg ?_))))
  refine rp 1 rfl ?_
  refine Wc (co_fn rfl rfl) (heap_Len b v []) ?_
  rintro v6 _ ⟨rfl, rfl⟩
  try dsimp only [ca, na, heapL, heapLF]
  refine Wp (po_eq rfl rfl) ?_
  refine Sn (Aw ?_)
  first | refine r_dec_t rfl (by simp) ?_ | refine r_nd_t rfl (by simp) ?_ | refine r_cond_t rfl (by simp) ?_
  refine Sq (Rg ?_)
  refine rp 3 rfl ?_
  refine Sn (Aw (Rt (Ar ?_)))
  refine at_ret3 rfl (rv_tmp rfl) (rv_tmp rfl) (rv_tmp rfl) ⟨_, ⟨rfl, rfl⟩, ?_⟩
  try dsimp only [ca, na, heapL, heapLF]
  exact ent
theorem heap_Pop (b : Nat) (v : Value) (l : List Ent) (hl : 0 < l.length) (hl2 : l.length ≤ 2^40) (hp : HpL l) : Spec PP 98 #[heapP b] (heapL b v l)
    (fun r M => ∃ (e : Ent) (v' : Value) (l' : List Ent), r = .tuple #[.int .i64 e.key, .int .i64 e.item, .bool true] ∧ M = heapL b v' l' ∧ l.Perm (e :: l') ∧ HpL l' ∧ ∀ x ∈ l, leE e x) := by
  have hmin : ∀ x ∈ l, leE (lg l 0) x := fun x hx => by
    obtain ⟨j, hj, rfl⟩ := List.getElem_of_mem hx
    rw [← lg_get hj]; exact heap_min hp j hj
  refine spec_of (Go.Proofs.Tryz.func98) rfl rfl rfl (by exact fc_enters_98) ?_
  intro g F
  try dsimp only [ca, na, heapL, heapLF]
  refine Sq (Rg ?_)
  refine rp 3 rfl ?_
  refine Sn (Aw (Sq (Rg ?_)))
  refine rp 1 rfl ?_
  refine Wc (co_fn rfl rfl) (heap_Top b v l hl) ?_
  rintro v8 _ ⟨rfl, rfl⟩
  try dsimp only [ca, na, heapL, heapLF]
  refine rp 7 rfl ?_
  refine Sn (Aw (Sq (Sq (Rg ?_))))
  refine rp 1 rfl ?_
  refine Sn (Aw ?_)
  refine r_cond_t rfl (rfl) ?_
  refine Sq (Rg ?_)
  refine rp 2 rfl ?_
  refine Wp (po_faddr rfl (by exact fc_field_157_0_0)) ?_
  refine Wp (po_load rfl (by exact fc_flat_155) (by rfl)) ?_
  refine Wp (po_len rfl (by exact fc_slice_155_160_2)) ?_
  refine Wp (po_sub' rfl rfl (by omega) (by omega)) ?_
  refine rp 1 rfl ?_
  refine Sn (Aw (Sq ?_))
  refine r_ord [12] _ [(0, 1), (1, 1), (2, 1), (3, 0), (4, 1), (5, 1), (6, 1), (7, 0), (8, 1), (9, 0), (10, 0), (11, 0), (12, 2)] fc_mixed (by kernel_rfl) (fun _ h => h) ?_
  refine Of rfl (po_move rfl) ?_
  refine Of rfl (po_nil rfl) ?_
  refine Of rfl (po_faddr rfl (by exact fc_field_157_0_0)) ?_
  refine Or rfl (po_load rfl (by exact fc_flat_155) (by rfl)) ?_
  refine Of rfl (po_move rfl) ?_
  refine Of rfl (po_nil rfl) ?_
  refine Of rfl (po_faddr rfl (by exact fc_field_157_0_0)) ?_
  refine Or rfl (po_load rfl (by exact fc_flat_155) (by rfl)) ?_
  refine Of rfl (po_move rfl) ?_
  refine Or rfl (po_iaddr rfl rfl (by exact fc_slice_155_160_2) (by first | omega | (simp <;> omega)) (by first | omega | (simp <;> omega))) ?_
  refine Or rfl (ld_eH rfl (List.getElem?_eq_getElem (by first | omega | (simp <;> omega))) (by exact fc_agg_160_2)) ?_
  refine Or rfl (po_iaddr rfl rfl (by exact fc_slice_155_160_2) (by first | omega | (simp <;> omega)) (by first | omega | (simp <;> omega))) ?_
  refine o_st rfl (st_so (st_eH rfl rfl (by first | omega | (simp <;> omega)) (by exact fc_agg_160_2)) rfl rfl ?_)
  refine ⟨fun h => late_no h (by kernel_rfl), ?_⟩
  refine o_nil ?_
  refine Aw (Sq (Rg ?_))
  refine rp 3 rfl ?_
  refine Wp (po_faddr rfl (by exact fc_field_157_0_0)) ?_
  refine Wp (po_load rfl (by exact fc_flat_155) (by rfl)) ?_
  refine rp 1 rfl ?_
  refine Wp (po_slice_h rfl rfl (by exact fc_slice_155_160_2) (by first | omega | (simp <;> omega)) (by first | omega | (simp <;> omega))) ?_
  refine rp 1 rfl ?_
  refine Wp (po_faddr rfl (by exact fc_field_157_0_0)) ?_
  refine Ws (so_store1 rfl rfl (by exact fc_flat_155) rfl) ?_
  refine Sn (Aw ?_)
  have e1 : ((l.length : Int) - 1).toNat = l.length - 1 := by omega
  have e2 := lg_get (l := l) (i := l.length - 1) (by omega)
  refine wp_ent (ent_sub (E := eH) (s := v) 0 ((l.length : Int) - 1).toNat (by omega) (by simp)) ?_
  simp only [e1, ← e2, List.drop_zero, Int.toNat_zero]
  refine Rg ?_
  refine rp 1 rfl ?_
  refine Wc (co_fn rfl rfl) (heap_down b (subv eH.k 0 (l.length - 1) v) ((l.set 0 (lg l (l.length - 1))).take (l.length - 1)) (by simp; omega) (dn_start hp hl)) ?_
  rintro v41 _ ⟨l', rfl, rfl, hp', hpm⟩
  try dsimp only [ca, na, heapL, heapLF]
  refine Sn (Aw (Sq (Rg ?_)))
  refine rp 6 rfl ?_
  refine Sn (Aw (Rt ?_))
  refine at_ret3 rfl (rv_tmp rfl) (rv_tmp rfl) (rv_tmp rfl) ⟨_, ⟨lg l 0, subv eH.k 0 (l.length - 1) v, l', rfl, rfl, (pop_perm hl).trans (hpm.symm.cons _), hp', hmin⟩, ?_⟩
  try dsimp only [ca, na, heapL, heapLF]
  exact ent
theorem heap_Pop0 (b : Nat) (v : Value) : Spec PP 98 #[heapP b] (heapL b v []) (fun r M => r = .tuple #[.int .i64 0, .int .i64 0, .bool false] ∧ M = heapL b v []) := by
  refine spec_of (Go.Proofs.Tryz.func98) rfl rfl rfl (by exact fc_enters_98) ?_
  intro g F
  try dsimp only [ca, na, heapL, heapLF]
  refine Sq (Rg ?_)
  refine rp 3 rfl ?_
  refine Sn (Aw (Sq (Rg ?_)))
  refine rp 1 rfl ?_
  refine Wc (co_fn rfl rfl) (heap_Top0 b v) ?_
  rintro v8 _ ⟨rfl, rfl⟩
  try dsimp only [ca, na, heapL, heapLF]
  refine rp 7 rfl ?_
  refine Sn (Aw (Sq (Sq (Rg ?_))))
  refine rp 1 rfl ?_
  refine Sn (Aw ?_)
  refine r_cond_f rfl (rfl) ?_
  refine Sk (Aw (Sq (Rg ?_)))
  refine rp 6 rfl ?_
  refine Sn (Aw (Rt ?_))
  refine at_ret3 rfl (rv_tmp rfl) (rv_tmp rfl) (rv_tmp rfl) ⟨_, ⟨rfl, rfl⟩, ?_⟩
  try dsimp only [ca, na, heapL, heapLF]
  exact ent
end Hd
end
section
namespace Hd
set_option maxRecDepth 100000
open Go

/-- a slice's value -/
structure SlV where
  a : Option Addr
  l : Nat
  c : Nat
def SlV.v (x : SlV) : Value := .slice x.a x.l x.c
/-- a sector as it was rebuilt last -/
structure PartS where
  ver : Int
  n : SlV
  nodes : List Int
  d : SlV
  dist : List Int
def eP : Enc PartS := ⟨124, 3, fun x => [.int .i64 x.ver, x.n.v, x.d.v], fun _ => rfl, by decide, by simp [Value.oneCell', SlV.v]⟩
abbrev slP (x : PartS) : HP := All [Sl eI x.n.v x.nodes, Sl eW x.d.v x.dist]
section
variable {P : Program} {g : Gl} {n : Nat} {env : Env} {L : List HP} {dst : Option Tmp} {ty : TypeId} {pos : String} {af : Array Edge} {gd : Option (Nat × Bool)}
theorem st_eP {s : Value} {xs : List PartS} {R : List HP} {t : TypeId} {x z : Operand} {i : Nat} {y : PartS} (hx : env.ev x = some (ead s i 3 0)) (hz : env.ev z = some (.agg [.int .i64 y.ver, y.n.v, y.d.v].toArray)) [m : HasSl L s PartS eP xs R] (hi : i < xs.length) (ht : aggB P t 3 = true) :
    SO P g n env L ⟨dst, .store t x z, ty, pos, af, gd⟩ (Sl eP s (xs.set i y) :: R) := so_storea_sl (E := eP) (y' := y) hx hz hi ht
end
/-- a mesh: where it lies, its grid, its parts -/
structure MeshS where
  b : Nat
  g : GridS
  pv : Value
  ps : List PartS
  clean : Int
  count : Int
abbrev MeshS.p (m : MeshS) : Value := .pointer (some ⟨m.b, 0, none⟩)
abbrev MeshS.l (m : MeshS) : List HP := [Blk m.b 101 [m.g.p, m.pv, .int .i64 m.clean, .int .u64 m.count], Sl eP m.pv m.ps, All (m.ps.map slP),
  Blk m.g.b 81 [.int .i64 m.g.w, .int .i64 m.g.h, m.g.cv, .int .i64 m.g.ep, m.g.vv], Sl eB m.g.cv m.g.c, Sl eL m.g.vv m.g.vs]
abbrev MeshS.lF (m : MeshS) (F : HP) : List HP := [Blk m.b 101 [m.g.p, m.pv, .int .i64 m.clean, .int .u64 m.count], Sl eP m.pv m.ps, All (m.ps.map slP),
  Blk m.g.b 81 [.int .i64 m.g.w, .int .i64 m.g.h, m.g.cv, .int .i64 m.g.ep, m.g.vv], Sl eB m.g.cv m.g.c, Sl eL m.g.vv m.g.vs, F]

theorem tally_Add (a : Int) (h0 : 0 ≤ a) (h1 : a ≤ 18446744073709551615) : Spec PP 64 #[.int .u64 a, .int .u64 1] [] (fun v M => (∃ r : Int, v = .int .u64 r ∧ r = min (a + 1) 18446744073709551615) ∧ M = []) := by
  refine spec_of (Go.Proofs.Tryz.func64) rfl rfl rfl (by exact fc_enters_64) ?_
  intro g F
  try dsimp only [ca, na, GridS.l, GridS.p, MeshS.l, MeshS.lF, MeshS.p]
  refine Sq (Rg ?_)
  refine rp 1 rfl ?_
  refine Sn (Aw (Sq (Sq (Rg ?_))))
  refine rp 2 rfl ?_
  refine Wp (po_sub_w rfl rfl (wrap_u64 _ (by omega) (by omega))) ?_
  refine Wp (po_gt rfl rfl) ?_
  refine Sn (Aw ?_)
  refine Rc rfl ?_ ?_
  ·skip
   intro h
   refine Sq (Rg ?_)
   refine rp 1 rfl ?_
   refine Sn (Aw (Rt (Ar ?_)))
   refine at_ret1 rfl (rv_tmp rfl) ⟨_, ⟨⟨_, rfl, by omega⟩, rfl⟩, ?_⟩
   try dsimp only [ca, na, GridS.l, GridS.p, MeshS.l, MeshS.lF, MeshS.p]
   exact ent
  ·skip
   intro h
   refine Sk (Aw (Sq (Rg ?_)))
   refine rp 2 rfl ?_
   refine Wp (po_add_w rfl rfl (wrap_u64 _ (by omega) (by omega))) ?_
   refine rp 1 rfl ?_
   refine Sn (Aw (Rt ?_))
   refine at_ret1 rfl (rv_tmp rfl) ⟨_, ⟨⟨_, rfl, by omega⟩, rfl⟩, ?_⟩
   try dsimp only [ca, na, GridS.l, GridS.p, MeshS.l, MeshS.lF, MeshS.p]
   exact ent

theorem part_place (pv : Value) (ps : List PartS) (i : Nat) (c : Int) (hi : i < ps.length) (hl : ps[i].nodes.length ≤ 2^30) (hr : Rising ps[i].nodes) :
    Spec PP 149 #[ead pv i 3 0, .int .i64 c] [Sl eP pv ps, Sl eI ps[i].n.v ps[i].nodes]
      (fun v M => (∃ r : Nat, v = .tuple #[.int .i64 r, .bool (decide (c ∈ ps[i].nodes))] ∧ (c ∈ ps[i].nodes → ps[i].nodes[r]? = some c)) ∧ M = [Sl eP pv ps, Sl eI ps[i].n.v ps[i].nodes]) := by
  refine spec_of (Go.Proofs.Tryz.func149) rfl rfl rfl (by exact fc_enters_149) ?_
  intro g F
  try dsimp only [ca, na, GridS.l, GridS.p, MeshS.l, MeshS.lF, MeshS.p]
  refine Sq (Rg ?_)
  refine rp 2 rfl ?_
  refine Sn (Aw (Sq (Rg ?_)))
  refine rp 1 rfl ?_
  refine Wp (po_nil_sl (E := eP) (xs := ps) rfl (by omega)) ?_
  refine Wp (po_faddr_sl (E := eP) (xs := ps) rfl (by omega) (by exact fc_field_124_1_1)) ?_
  refine Wp (po_load_sl (E := eP) (xs := ps) (y := ps[i]) rfl (List.getElem?_eq_getElem hi) (by exact fc_flat_35) (by rfl)) ?_
  refine rp 1 rfl ?_
  refine Wc (co_fn rfl rfl) (bin_search ps[i].n.v ps[i].nodes c hl hr) ?_
  rintro v11 _ ⟨⟨r, rfl, hr2⟩, rfl⟩
  try dsimp only [ca, na, GridS.l, GridS.p, MeshS.l, MeshS.lF, MeshS.p]
  refine rp 4 rfl ?_
  refine Sn (Aw (Rt ?_))
  refine at_ret2 rfl (rv_tmp rfl) (rv_tmp rfl) ⟨_, ⟨⟨r, rfl, hr2⟩, rfl⟩, ?_⟩
  try dsimp only [ca, na, GridS.l, GridS.p, MeshS.l, MeshS.lF, MeshS.p]
  exact ent

/-- how far it is from one node to another one -/
theorem part_between (pv : Value) (ps : List PartS) (i : Nat) (j k : Nat) (hi : i < ps.length) (hl : ps[i].nodes.length ≤ 1024) (hd : ps[i].dist.length = ps[i].nodes.length * ps[i].nodes.length) (hj : j < ps[i].nodes.length) (hk : k < ps[i].nodes.length)
    (hr : ∀ x ∈ ps[i].dist, -1 ≤ x ∧ x ≤ 2147483647) :
    Spec PP 123 #[ead pv i 3 0, .int .i64 j, .int .i64 k] [Sl eP pv ps, Sl eI ps[i].n.v ps[i].nodes, Sl eW ps[i].d.v ps[i].dist]
      (fun v M => v = .int .i64 (if gAt ps[i].dist ((j * ps[i].nodes.length + k : Nat) : Int) = -1 then 1099511627776 else gAt ps[i].dist ((j * ps[i].nodes.length + k : Nat) : Int)) ∧ M = [Sl eP pv ps, Sl eI ps[i].n.v ps[i].nodes, Sl eW ps[i].d.v ps[i].dist]) := by
  have hix := idx_lt hj hk
  have hmul : 0 ≤ (j : Int) * ps[i].nodes.length ∧ (j : Int) * ps[i].nodes.length ≤ 1048576 := mul_1k (by omega) (by omega) (by omega) (by omega)
  have hin : (j : Int) * ps[i].nodes.length + k = ((j * ps[i].nodes.length + k : Nat) : Int) := by simp
  have hlt : (j : Int) * ps[i].nodes.length + k < ps[i].dist.length := by rw [hd, hin]; omega
  have hg : gAt ps[i].dist ((j * ps[i].nodes.length + k : Nat) : Int) = ps[i].dist[((j : Int) * ps[i].nodes.length + k).toNat]'(by omega) := by rw [← hin]; exact gAt_get (by omega)
  have hb := hr _ (List.getElem_mem (show ((j : Int) * ps[i].nodes.length + k).toNat < ps[i].dist.length by omega))
  refine spec_of (Go.Proofs.Tryz.func123) rfl rfl rfl (by exact fc_enters_123) ?_
  intro g F
  try dsimp only [ca, na, GridS.l, GridS.p, MeshS.l, MeshS.lF, MeshS.p]
  refine Sq (Rg ?_)
  refine rp 1 rfl ?_
  refine Sn (Aw (Sq (Sq ?_)))
  refine r_ord [] _ [(0, 1), (1, 0), (2, 0), (3, 0), (4, 1), (5, 1), (6, 0), (7, 0), (8, 0), (9, 0), (10, 1), (11, 1), (12, 1), (13, 0), (14, 0), (15, 1)] fc_mixed (by kernel_rfl) (fun _ h => h) ?_
  refine Of rfl (po_move rfl) ?_
  refine Or rfl (po_nil_sl (E := eP) (xs := ps) rfl (by omega)) ?_
  refine Or rfl (po_faddr_sl (E := eP) (xs := ps) rfl (by omega) (by exact fc_field_124_2_2)) ?_
  refine Or rfl (po_load_sl (E := eP) (xs := ps) (y := ps[i]) rfl (List.getElem?_eq_getElem hi) (by exact fc_flat_82) (by rfl)) ?_
  refine Of rfl (po_move rfl) ?_
  refine Of rfl (po_move rfl) ?_
  refine Or rfl (po_nil_sl (E := eP) (xs := ps) rfl (by omega)) ?_
  refine Or rfl (po_faddr_sl (E := eP) (xs := ps) rfl (by omega) (by exact fc_field_124_1_1)) ?_
  refine Or rfl (po_load_sl (E := eP) (xs := ps) (y := ps[i]) rfl (List.getElem?_eq_getElem hi) (by exact fc_flat_35) (by rfl)) ?_
  refine Or rfl (po_len rfl (by exact fc_slice_35_3_1)) ?_
  refine Of rfl (po_mul' rfl rfl (by omega) (by omega)) ?_
  refine Of rfl (po_move rfl) ?_
  refine Of rfl (po_add' rfl rfl (by omega) (by omega)) ?_
  refine Or rfl (po_iaddr rfl rfl (by exact fc_slice_82_21_1) (by first | omega | (simp <;> omega)) (by first | omega | (simp <;> omega))) ?_
  refine Or rfl (po_load_sl rfl (List.getElem?_eq_getElem (by first | omega | (simp <;> omega))) (by exact fc_flat_21) (by rfl)) ?_
  refine Of rfl (po_assign rfl) ?_
  refine o_nil ?_
  refine Aw (Sq (Rg ?_))
  refine rp 1 rfl ?_
  refine Wp (po_ne rfl rfl) ?_
  refine Sn (Aw ?_)
  refine Rc rfl ?_ ?_
  ·skip
   intro hf
   refine Sq (Rg ?_)
   refine rp 1 rfl ?_
   refine Wp (po_conv_w rfl (by exact fc_int_21_i32) (by exact fc_int_3_i64) (wrap_i64 _ (by omega) (by omega))) ?_
   refine rp 1 rfl ?_
   refine Sn (Aw (Rt (Ar ?_)))
   refine at_ret1 rfl (rv_tmp rfl) ⟨_, ⟨by rw [hg, if_neg hf], rfl⟩, ?_⟩
   try dsimp only [ca, na, GridS.l, GridS.p, MeshS.l, MeshS.lF, MeshS.p]
   exact ent
  ·skip
   intro hf
   refine Sk (Aw (Sq (Rg ?_)))
   refine rp 1 rfl ?_
   refine Sn (Aw (Rt ?_))
   refine at_ret1 rfl (rv_tmp rfl) ⟨_, ⟨by rw [hg, if_pos (Classical.not_not.1 hf)], rfl⟩, ?_⟩
   try dsimp only [ca, na, GridS.l, GridS.p, MeshS.l, MeshS.lF, MeshS.p]
   exact ent
end Hd
end
section
namespace Hd
open Go
/-! ## a sector's tile -/
theorem global_row {w h s x : Int} {y : Nat} (k : IsS w h s) (hy : (y : Int) < (sizeN w h s).2) (hx : 0 ≤ x ∧ x < (sizeN w h s).1) :
    globalN w h s (y * (sizeN w h s).1 + x) = globalN w h s (y * (sizeN w h s).1) + x := by
  have hp := size_pos k
  have h1 := mul_lt (a := x) (b := (y : Int)) (c := (sizeN w h s).1) (d := (sizeN w h s).2) hx.1 hx.2 (by omega) hy
  have h2 := mul_lt (a := 0) (b := (y : Int)) (c := (sizeN w h s).1) (d := (sizeN w h s).2) (by omega) (by omega) (by omega) hy
  have d1 := xy_div (w := (sizeN w h s).1) (x := x) (y := (y : Int)) hx.1 hx.2
  have d2 := xy_div (w := (sizeN w h s).1) (x := 0) (y := (y : Int)) (by omega) (by omega)
  rw [Int.add_zero] at d2 h2
  rw [globalN, if_pos ⟨k, h1⟩, globalN, if_pos ⟨k, h2⟩, d1.1, d1.2, d2.1, d2.2]
  omega
theorem rowN_get {s : GridS} (ok : GridOk s) {i : Int} (hi : IsS s.w s.h i) {y x : Nat} (hy : (y : Int) < (sizeN s.w s.h i).2) (hx : (x : Int) < (sizeN s.w s.h i).1) :
    (rowN s.w s.h i s.c y)[x]? = some (gAt s.c (globalN s.w s.h i (y * (sizeN s.w s.h i).1 + x))) := by
  have hr := row_ok ok hi y hy
  have hp := size_pos hi
  rw [global_row hi hy ⟨by omega, hx⟩, rowN, List.getElem?_drop, List.getElem?_take, if_pos (by omega), gAt_get (by omega), List.getElem?_eq_getElem (by omega)]
  congr 2; omega
theorem rowN_len {s : GridS} (ok : GridOk s) {i : Int} (hi : IsS s.w s.h i) {y : Nat} (hy : (y : Int) < (sizeN s.w s.h i).2) : ((rowN s.w s.h i s.c y).length : Int) = (sizeN s.w s.h i).1 := by
  have hr := row_ok ok hi y hy
  have hp := size_pos hi
  rw [rowN, List.length_drop, List.length_take]; omega
theorem rows_get {s : GridS} (ok : GridOk s) {i : Int} (hi : IsS s.w s.h i) : ∀ (k : Nat), (k : Int) ≤ (sizeN s.w s.h i).2 → ∀ (y x : Nat), y < k → (x : Int) < (sizeN s.w s.h i).1 →
    (rowsN s.w s.h i s.c k)[y * (sizeN s.w s.h i).1.toNat + x]? = some (gAt s.c (globalN s.w s.h i (y * (sizeN s.w s.h i).1 + x)))
  | 0, _, y, x, h, _ => by omega
  | k + 1, hk, y, x, h, hx => by
    have hp := size_pos hi
    have hl := rows_len ok hi k (by omega)
    have hrl := rowN_len ok hi (y := k) (by omega)
    have hl' : (rowsN s.w s.h i s.c k).length = k * (sizeN s.w s.h i).1.toNat := by
      have : (((k * (sizeN s.w s.h i).1.toNat : Nat)) : Int) = k * (sizeN s.w s.h i).1 := by rw [Int.natCast_mul, Int.toNat_of_nonneg (by omega)]
      omega
    rw [rowsN_succ]
    by_cases e : y < k
    · have h1 : y * (sizeN s.w s.h i).1.toNat + x < k * (sizeN s.w s.h i).1.toNat := by
        have : (y + 1) * (sizeN s.w s.h i).1.toNat ≤ k * (sizeN s.w s.h i).1.toNat := Nat.mul_le_mul_right _ e
        rw [Nat.succ_mul] at this; omega
      rw [List.getElem?_append_left (by omega)]
      exact rows_get ok hi k (by omega) y x e hx
    · have : y = k := by omega
      subst this
      rw [List.getElem?_append_right (by omega), hl', Nat.add_sub_cancel_left]
      exact rowN_get ok hi (by omega) hx
theorem tile_len {s : GridS} (ok : GridOk s) {i : Int} (hi : IsS s.w s.h i) : ((tileN s i).c.length : Int) = (sizeN s.w s.h i).1 * (sizeN s.w s.h i).2 := by
  have hp := size_pos hi
  have := rows_len ok hi (sizeN s.w s.h i).2.toNat (by omega)
  show ((rowsN s.w s.h i s.c (sizeN s.w s.h i).2.toNat).length : Int) = _
  rw [this, Int.toNat_of_nonneg (by omega), Int.mul_comm]
theorem tile_at {s : GridS} (ok : GridOk s) {i l : Int} (hi : IsS s.w s.h i) (h0 : 0 ≤ l) (h1 : l < (sizeN s.w s.h i).1 * (sizeN s.w s.h i).2) : gAt (tileN s i).c l = gAt s.c (globalN s.w s.h i l) := by
  have hp := size_pos hi
  have hg := (global_xy hi h0 h1).2.2
  have hd := div_mod_eq (l := l) (tw := (sizeN s.w s.h i).1) (by omega)
  have hr := rows_get ok hi (sizeN s.w s.h i).2.toNat (by omega) (l / (sizeN s.w s.h i).1).toNat (l % (sizeN s.w s.h i).1).toNat (by omega) (by omega)
  rw [Int.toNat_of_nonneg hg.2.1, Int.toNat_of_nonneg hg.1.1, ← hd] at hr
  have e : (l / (sizeN s.w s.h i).1).toNat * (sizeN s.w s.h i).1.toNat + (l % (sizeN s.w s.h i).1).toNat = l.toNat := by
    have e1 : (((l / (sizeN s.w s.h i).1).toNat * (sizeN s.w s.h i).1.toNat + (l % (sizeN s.w s.h i).1).toNat : Nat) : Int) = l := by
      rw [Int.natCast_add, Int.natCast_mul, Int.toNat_of_nonneg hg.2.1, Int.toNat_of_nonneg hg.1.1, Int.toNat_of_nonneg (by omega)]; exact hd.symm
    omega
  rw [e] at hr
  show gAt (rowsN s.w s.h i s.c (sizeN s.w s.h i).2.toNat) l = _
  unfold gAt at hr ⊢
  rw [List.getD_eq_getElem?_getD, hr]; rfl
theorem tile_mem {s : GridS} (ok : GridOk s) {i : Int} (hi : IsS s.w s.h i) : ∀ x ∈ (tileN s i).c, 1 ≤ x ∧ x ≤ 255 := by
  intro x hx
  have hm : ∀ k, x ∈ rowsN s.w s.h i s.c k → x ∈ s.c := by
    intro k h
    obtain ⟨y, -, hy⟩ := List.mem_flatMap.1 h
    exact List.mem_of_mem_take (List.mem_of_mem_drop hy)
  exact ok.bt x (hm _ hx)
theorem tile_may {s : GridS} (ok : GridOk s) {i : Int} (hi : IsS s.w s.h i) : MayT (tileN s i) := by
  have hp := size_pos hi
  have hz := size_le s.w s.h i
  refine ⟨⟨by show 1 ≤ (sizeN s.w s.h i).1; omega, by show (sizeN s.w s.h i).1 ≤ 16; omega⟩, ⟨by show 1 ≤ (sizeN s.w s.h i).2; omega, by show (sizeN s.w s.h i).2 ≤ 16; omega⟩, tile_len ok hi, fun h => ?_⟩
  have := tile_mem ok hi 0 h; omega
/-! ## nodes -/
theorem open_iff {s : GridS} (ok : GridOk s) {c : Int} : openN s.c c ↔ Opn s.c c := by
  unfold openN Opn costN
  by_cases e : 0 ≤ c ∧ c < s.c.length
  · rw [if_pos e]
    have := ok.bt _ (List.getElem_mem (show c.toNat < s.c.length by omega))
    rw [← gAt_get] at this
    constructor
    · rintro ⟨h1, h2⟩; exact ⟨e.1, e.2, by show gAt s.c c ≠ 255; have : cAt s.c c < 255 := h2; show cAt s.c c ≠ 255; omega⟩
    · rintro ⟨h1, h2, h3⟩; exact ⟨by show 0 < gAt s.c c; omega, by show gAt s.c c < 255; omega⟩
  · rw [if_neg e]
    exact ⟨fun h => by omega, fun h => absurd ⟨h.1, h.2.1⟩ e⟩
def locsN (w h : Int) (c : List Int) (s : Int) : List Nat := (List.range (secN w h s)).filter fun l => edgeTo w h s 4 l && decide (openN c (globalN w h s l))
theorem nodes_eq (w h : Int) (c : List Int) (s : Int) : nodesN w h c s = (locsN w h c s).map fun (l : Nat) => globalN w h s l := by
  unfold nodesN cellsN cellsTo locsN
  rw [List.filter_map, List.filter_filter]
  congr 1
  apply List.filter_congr
  intro x _
  simp [Bool.and_comm]
theorem locs_lt {w h : Int} {c : List Int} {s : Int} {l : Nat} (hl : l ∈ locsN w h c s) : (l : Int) < (sizeN w h s).1 * (sizeN w h s).2 := by
  have := List.mem_range.1 (List.mem_filter.1 hl).1
  have hs := secN_eq w h s
  omega
theorem locals_eq {w h : Int} {c : List Int} {s : Int} (hs : IsS w h s) : (nodesN w h c s).map (localN w h) = (locsN w h c s).map fun (l : Nat) => (l : Int) := by
  rw [nodes_eq, List.map_map]
  apply List.map_congr_left
  intro l hl
  exact local_global hs (by omega) (locs_lt hl)
theorem locs_pw (w h : Int) (c : List Int) (s : Int) : (locsN w h c s).Pairwise (· < ·) := List.Pairwise.filter _ List.pairwise_lt_range
theorem rising_of_pw {l : List Int} (h : l.Pairwise (· < ·)) : Rising l := fun i j hi hj hij => List.pairwise_iff_getElem.1 h i j hi hj hij
theorem global_mono {w h s : Int} (hs : IsS w h s) {a b : Int} (h0 : 0 ≤ a) (hab : a < b) (hb : b < (sizeN w h s).1 * (sizeN w h s).2) : globalN w h s a < globalN w h s b := by
  have hp := size_pos hs
  have ga := global_xy hs h0 (by omega)
  have gb := global_xy hs (show 0 ≤ b by omega) hb
  have da := div_mod_eq (l := a) (tw := (sizeN w h s).1) (by omega)
  have db := div_mod_eq (l := b) (tw := (sizeN w h s).1) (by omega)
  rw [globalN, if_pos ⟨hs, h0, by omega⟩, globalN, if_pos ⟨hs, by omega, hb⟩]
  have hle : a / (sizeN w h s).1 ≤ b / (sizeN w h s).1 := Int.ediv_le_ediv (by omega) (by omega)
  rcases Int.lt_or_eq_of_le hle with e | e
  · have h1 : (s / acrN w * 16 + a / (sizeN w h s).1 + 1) * w ≤ (s / acrN w * 16 + b / (sizeN w h s).1) * w := Int.mul_le_mul_of_nonneg_right (by omega) (by have := hs.1; omega)
    rw [Int.add_mul, Int.one_mul] at h1
    omega
  · rw [e] at da ⊢; omega
theorem nodes_rising {w h : Int} {c : List Int} {s : Int} (hs : IsS w h s) : Rising (nodesN w h c s) := by
  apply rising_of_pw
  rw [nodes_eq, List.pairwise_map]
  refine List.Pairwise.imp_of_mem (fun {a b} ha hb hab => ?_) (locs_pw w h c s)
  exact global_mono hs (by omega) (by omega) (locs_lt hb)
theorem locals_rising {w h : Int} {c : List Int} {s : Int} (hs : IsS w h s) : Rising ((nodesN w h c s).map (localN w h)) := by
  apply rising_of_pw
  rw [locals_eq hs, List.pairwise_map]
  exact List.Pairwise.imp (fun h => by omega) (locs_pw w h c s)
theorem locs_ok {s : GridS} (ok : GridOk s) {i : Int} (hi : IsS s.w s.h i) : LocsOk (tileN s i) ((nodesN s.w s.h s.c i).map (localN s.w s.h)) := by
  refine ⟨tile_may ok hi, tile_mem ok hi, fun x hx => ?_, locals_rising hi⟩
  rw [locals_eq hi] at hx
  obtain ⟨l, hl, rfl⟩ := List.mem_map.1 hx
  have hlt := locs_lt hl
  have ho := (List.mem_filter.1 hl).2
  simp only [Bool.and_eq_true, decide_eq_true_eq] at ho
  have ho2 := (open_iff ok).1 ho.2
  exact ⟨by omega, by rw [tile_len ok hi]; exact hlt, by rw [tile_at ok hi (by omega) hlt]; exact ho2.2.2⟩
end Hd
end
section
namespace Hd
theorem cnt_lt {α : Type} (p q : α → Bool) (hpq : ∀ x, p x = true → q x = true) : ∀ (l : List α) (m : α), m ∈ l → q m = true → p m = false → l.countP p + 1 ≤ l.countP q
  | [], m, h, _, _ => by cases h
  | x :: l, m, h, hq, hp => by
    have hle : l.countP p ≤ l.countP q := List.countP_mono_left fun x _ hx => hpq x hx
    rcases List.mem_cons.1 h with e | e
    · subst e; rw [List.countP_cons, List.countP_cons, hq, hp]; simp; exact hle
    · have ih := cnt_lt p q hpq l m e hq hp
      rw [List.countP_cons, List.countP_cons]
      by_cases e2 : p x = true
      · rw [if_pos e2, if_pos (hpq x e2)]; omega
      · rw [if_neg e2]; omega
/-- finite distances are not great -/
theorem dist_bound {w h : Int} {C : List Int} {src : Int → Int → Prop} {d : Int → Int} {K : Int} (hC : ∀ x ∈ C, 1 ≤ x ∧ x ≤ 255) (hd : IsDist w h C src d) (hK : ∀ c k, src c k → k ≤ K) (hK0 : 0 ≤ K) : ∀ c, d c < INF → d c ≤ K + 255 * C.length := by
  have key : ∀ (n : Nat) (c : Int), d c < INF → d c ≤ n → d c ≤ K + 255 * (((List.range C.length).countP fun (i : Nat) => decide (d i < d c)) : Nat) := by
    intro n
    induction n using Nat.strongRecOn with
    | _ n ih =>
      intro c hlt hle
      rcases hd.tight c with e | e | ⟨m, hm, hml, e⟩
      · omega
      · have := hK _ _ e; omega
      · have hmo := hm.1
        have hl : m.toNat < C.length := by unfold Opn at hmo; omega
        have hc := hC _ (List.getElem_mem hl)
        rw [← gAt_get] at hc
        have hr := hd.rng m
        have h0 : 0 ≤ d m := by omega
        have hmm : ((m.toNat : Nat) : Int) = m := Int.toNat_of_nonneg hmo.1
        have := ih (d m).toNat (by omega) m hml (by omega)
        have hcnt := cnt_lt (fun i : Nat => decide (d i < d m)) (fun i : Nat => decide (d i < d c)) (fun x hx => by simp at hx ⊢; omega) (List.range C.length) m.toNat (List.mem_range.2 hl) (by simp [hmm]; omega) (by simp [hmm])
        omega
  intro c hlt
  have h1 := key (d c).toNat c hlt (by have := hd.rng c; omega)
  have h2 : ((List.range C.length).countP fun (i : Nat) => decide (d i < d c)) ≤ C.length := Nat.le_trans List.countP_le_length (by simp)
  omega
end Hd
end
section
namespace Hd
set_option maxRecDepth 100000
open Go

/-- a sector's nodes and how far they are from each other, of a grid as it is -/
structure PartOk (g : GridS) (i : Int) (x : PartS) : Prop where
  nodes : x.nodes = nodesN g.w g.h g.c i
  len : x.dist.length = x.nodes.length * x.nodes.length
  rng : ∀ v ∈ x.dist, -1 ≤ v ∧ v ≤ 2147483647
  col : ∀ j y, x.nodes[j]? = some y → ∃ d : List Int, d.length = (tileN g i).c.length ∧ IsDist (tileN g i).w (tileN g i).h (tileN g i).c (srcS (oneS (localN g.w g.h y))) (dF d) ∧
    ∀ k z, x.nodes[k]? = some z → x.dist[k * x.nodes.length + j]? = some (if gAt d (localN g.w g.h z) = 1099511627776 then -1 else gAt d (localN g.w g.h z))
/-- a mesh as the program keeps it -/
structure MeshOk (m : MeshS) : Prop where
  g : GridOk m.g
  len : (m.ps.length : Int) = acrN m.g.w * acrN m.g.h
  vs : ∀ v ∈ m.g.vs, 1 ≤ v ∧ v ≤ m.g.ep
  cnt : 0 ≤ m.count ∧ m.count ≤ 18446744073709551615
  cl : m.clean ≤ m.g.ep
  /-- a part of the version that the grid has is as the grid is -/
  part : ∀ (i : Nat) x, m.ps[i]? = some x → m.g.vs[i]? = some x.ver → PartOk m.g i x
  /-- if the mesh is clean as of the grid's epoch, all are -/
  clean : m.clean = m.g.ep → ∀ (i : Nat) x, m.ps[i]? = some x → m.g.vs[i]? = some x.ver

theorem nopart_sat (n : Nat) : ∀ {L : List HP} (h : Frag), Sat L h → Sat (All ((List.replicate n (⟨0, ⟨none, 0, 0⟩, [], ⟨none, 0, 0⟩, []⟩ : PartS)).map slP) :: L) h := by
  induction n with
  | zero => intro L h s; exact all_nil.2 s
  | succ n ih =>
    intro L h s
    rw [List.replicate_succ, List.map_cons]
    refine all_cons.2 (sat_all.2 ?_)
    exact (Has.nilSl eI _).out h ((Has.nilSl eW _).out h (ih h s))

/-- New, over a grid -/
theorem mesh_New (gr : GridS) (ok : GridOk gr) (hv : ∀ v ∈ gr.vs, 1 ≤ v ∧ v ≤ gr.ep) : Spec PP 30 #[gr.p] gr.l (fun v M => ∃ m : MeshS, v = m.p ∧ M = m.l ∧ m.g = gr ∧ MeshOk m) := by
  have hap := acr_pos ok.may
  have hmul := mul_1k (a := acrN gr.w) (b := acrN gr.h) (by omega) (by omega) (by omega) (by omega)
  have hse : secsN gr.w gr.h = (acrN gr.w, acrN gr.h) := by rw [secsN, if_pos ok.may]
  refine spec_of (Go.Proofs.Tryz.func30) rfl rfl rfl (by exact fc_enters_30) ?_
  intro g F
  try dsimp only [ca, na, GridS.l, GridS.p, MeshS.l, MeshS.lF, MeshS.p]
  refine Sq (Rg ?_)
  refine rp 1 rfl ?_
  refine Sn (Aw (Sq (Sq (Rg ?_))))
  refine rp 1 rfl ?_
  refine Wp (po_peq rfl rfl (by exact fc_ptr_27)) ?_
  refine Sn (Aw ?_)
  refine r_cond_f rfl (rfl) ?_
  refine Sk (Aw (Sq (Rg ?_)))
  refine rp 1 rfl ?_
  refine Wc (co_fn rfl rfl) (grid_Size gr) ?_
  rintro v9 _ ⟨rfl, rfl⟩
  try dsimp only [ca, na, GridS.l, GridS.p, MeshS.l, MeshS.lF, MeshS.p]
  refine rp 2 rfl ?_
  refine Wc (co_fn rfl rfl) (where_Sectors gr.w gr.h) ?_
  rintro v12 _ ⟨rfl, rfl⟩
  try dsimp only [ca, na, GridS.l, GridS.p, MeshS.l, MeshS.lF, MeshS.p]
  refine rp 5 rfl ?_
  refine Sn (Aw (Sq ?_))
  rw [hse]
  dsimp only
  refine Rg ?_
  refine rp 3 rfl ?_
  refine Wp (po_mul' rfl rfl (by omega) (by omega)) ?_
  refine Wx (xo_make eP (⟨0,⟨none,0,0⟩,[],⟨none,0,0⟩,[]⟩) rfl rfl (by exact fc_slice_99_124_3) (by exact fc_elem_124_3_56) (by exact fc_zero_124) rfl (by first | omega | (simp <;> omega)) (by first | omega | (simp <;> omega)) (by first | omega | (simp <;> omega))) ?_
  rintro v19 _ rfl
  refine Wp (po_build1 rfl (by exact fc_zero_101) (by exact fc_places_101_0_1) (by exact fc_info_101) rfl) ?_
  refine Wx (xo_box rfl rfl) ?_
  rintro _ _ ⟨b21, rfl, rfl⟩
  refine rp 1 rfl ?_
  refine Sn (Aw (Rt ?_))
  refine at_ent (nopart_sat (acrN gr.w * acrN gr.h).toNat) ?_
  refine at_ret1 rfl (rv_tmp rfl) ⟨_, ⟨⟨b21, gr, v19, List.replicate (acrN gr.w * acrN gr.h).toNat ⟨0, ⟨none, 0, 0⟩, [], ⟨none, 0, 0⟩, []⟩, 0, 0⟩, rfl, rfl, rfl, ok, by simp; omega, hv, by simp, by have := ok.ep0; simp; omega, fun i x h1 h2 => by
      have := List.eq_of_mem_replicate (List.mem_of_getElem? h1); subst this
      exact absurd (hv _ (List.mem_of_getElem? h2)).1 (by show ¬ (1 : Int) ≤ 0; decide), fun h i x h1 => by
      have h0 : (0 : Int) = gr.ep := h
      have hl : i < gr.vs.length := by have := lt_of_get h1; simp at this; have := ok.vlen; omega
      have := hv _ (List.getElem_mem hl); omega⟩, ?_⟩
  try dsimp only [ca, na, GridS.l, GridS.p, MeshS.l, MeshS.lF, MeshS.p]
  exact ent

theorem rd_slv {α : Type} {E : Enc α} {v : Value} {xs : List α} {L : List HP} [m : Rd L v α E xs] : ∀ h, Sat L h → ∃ s : SlV, v = s.v := fun h hs => by
  rcases m.out h hs with ⟨e, -⟩ | ⟨b, off, cap, e, -, -⟩
  · exact ⟨⟨none, 0, 0⟩, e⟩
  · exact ⟨⟨_, _, _⟩, e⟩
/-- no way is -1 -/
def wInf (v : Int) : Int := if v = 1099511627776 then -1 else v
def fillW (out : List Int) (k : Nat) : List Int := (out.map wInf).take k ++ List.replicate (out.length - k) 0
theorem fillW_len {out : List Int} {k : Nat} (h : k ≤ out.length) : (fillW out k).length = out.length := by simp [fillW]; omega
theorem fillW_set {out : List Int} {k : Nat} (h : k < out.length) : (fillW out k).set k (wInf out[k]) = fillW out (k + 1) := by
  unfold fillW
  have hl : ((out.map wInf).take k).length = k := by simp; omega
  rw [List.set_append_right _ _ (by omega), hl, Nat.sub_self, show out.length - k = (out.length - (k + 1)) + 1 by omega, List.replicate_succ, List.set_cons_zero, take_snoc _ k (by simpa using h)]
  simp
theorem fillW_0 (out : List Int) : List.replicate out.length 0 = fillW out 0 := by simp [fillW]
theorem fillW_n (out : List Int) : fillW out out.length = out.map wInf := by simp [fillW, List.take_of_length_le]
theorem col_rng {t : Tile} {l out : List Int} (ok : LocsOk t l) (hl : out.length = l.length * l.length) (hc : ∀ j, j < l.length → Col t l out j) : ∀ v ∈ out, v = 1099511627776 ∨ (0 ≤ v ∧ v ≤ 65280) := by
  intro v hv
  obtain ⟨k, hk, rfl⟩ := List.getElem_of_mem hv
  have hn : 0 < l.length := by
    rcases Nat.eq_zero_or_pos l.length with e | e
    · rw [hl, e] at hk; simp at hk
    · exact e
  have hkj : k % l.length < l.length := Nat.mod_lt _ hn
  have hki : k / l.length < l.length := Nat.div_lt_of_lt_mul (by rw [← hl]; exact hk)
  obtain ⟨x, d, hx, hdl, hd, hcol⟩ := hc _ hkj
  have h2 := hcol (k / l.length) l[k / l.length] (List.getElem?_eq_getElem hki)
  rw [Nat.mul_comm, Nat.div_add_mod, List.getElem?_eq_getElem hk] at h2
  have hop := ok.op _ (List.getElem_mem hki)
  have hdf : dF d l[k / l.length] = gAt d l[k / l.length] := by rw [dF, if_pos ⟨hop.1, by rw [hdl]; exact hop.2.1⟩]
  have hI : INF = 1099511627776 := rfl
  have hr := hd.rng l[k / l.length]
  have hb := dist_bound ok.bt hd (K := 0) (fun c k ⟨s, hs, e1, e2⟩ => by
    have : s = ⟨x, 4, 0⟩ := by simpa using hs
    subst this; rw [← e2]; exact Int.le_refl _) (by decide) l[k / l.length]
  have hsm := ok.small
  rw [hdf] at hr hb
  have h3 := Option.some.inj h2
  rw [h3]
  omega

theorem part_of {g : GridS} (ok : GridOk g) {i : Int} (hi : IsS g.w g.h i) {xs out : List Int} {sn sd : SlV} {ver : Int} (hlo : LocsOk (tileN g i) xs) (hxe : xs = (nodesN g.w g.h g.c i).map (localN g.w g.h)) (hol : out.length = xs.length * xs.length) (hcol : ∀ j, j < xs.length → Col (tileN g i) xs out j)
    (hcr : ∀ v ∈ out, v = 1099511627776 ∨ (0 ≤ v ∧ v ≤ 65280)) : PartOk g i ⟨ver, sn, nodesN g.w g.h g.c i, sd, out.map wInf⟩ := by
  have hxl : xs.length = (nodesN g.w g.h g.c i).length := by rw [hxe, List.length_map]
  refine ⟨rfl, by show (out.map wInf).length = _; rw [List.length_map, hol, hxl], fun v hv => ?_, fun j y hy => ?_⟩
  · obtain ⟨u, hu, rfl⟩ := List.mem_map.1 hv
    unfold wInf
    rcases hcr u hu with e | e
    · rw [if_pos e]; omega
    · split <;> omega
  · have hj : j < xs.length := by rw [hxl]; exact lt_of_get hy
    obtain ⟨x, d, h1, h2, h3, h4⟩ := hcol j hj
    have hxj : x = localN g.w g.h y := by
      rw [hxe, List.getElem?_map] at h1
      have hy' : (nodesN g.w g.h g.c i)[j]? = some y := hy
      rw [hy'] at h1; exact (Option.some.inj h1).symm
    subst hxj
    refine ⟨d, h2, h3, fun k z hz => ?_⟩
    have hz' : (nodesN g.w g.h g.c i)[k]? = some z := hz
    have := h4 k (localN g.w g.h z) (by rw [hxe, List.getElem?_map, hz']; rfl)
    show (out.map wInf)[k * (nodesN g.w g.h g.c i).length + j]? = _
    rw [List.getElem?_map, ← hxl, this]; rfl
theorem mesh_make (m : MeshS) (okg : GridOk m.g) (i : Int) (hi : IsS m.g.w m.g.h i) : Spec PP 91 #[m.p, .int .i64 i] m.l
    (fun v M => ∃ x : PartS, v = .agg #[.int .i64 x.ver, x.n.v, x.d.v] ∧ M = m.l ++ [slP x] ∧ PartOk m.g i x ∧ m.g.vs[i.toNat]? = some x.ver) := by
  have hi0 := hi.2
  have hvl := okg.vlen
  have hnl := nodes_len m.g.w m.g.h m.g.c i
  have hlo := locs_ok okg hi
  have hver : (if 0 ≤ i ∧ i < m.g.vs.length then cAt m.g.vs i else 0) = m.g.vs[i.toNat]'(by omega) := by rw [if_pos (by omega)]; exact gAt_get (by omega)
  refine spec_of (Go.Proofs.Tryz.func91) rfl rfl rfl (by exact fc_enters_91) ?_
  intro g F
  try dsimp only [ca, na, GridS.l, GridS.p, MeshS.l, MeshS.lF, MeshS.p]
  refine Sq (Rg ?_)
  refine Wx (xo_alloc (by exact fc_zero_124)) ?_
  rintro _ _ ⟨b4, rfl, rfl⟩
  refine Sn (Aw (Sq (Rg ?_)))
  refine rp 2 rfl ?_
  refine Wp (po_faddr rfl (by exact fc_field_101_0_0)) ?_
  refine Wp (po_load rfl (by exact fc_flat_27) (by rfl)) ?_
  refine Wc (co_fn rfl rfl) (grid_Size m.g) ?_
  rintro v22 _ ⟨rfl, rfl⟩
  try dsimp only [ca, na, GridS.l, GridS.p, MeshS.l, MeshS.lF, MeshS.p]
  refine rp 5 rfl ?_
  refine Sn (Aw (Sq (Rg ?_)))
  refine rp 2 rfl ?_
  refine Wp (po_faddr rfl (by exact fc_field_101_0_0)) ?_
  refine Wp (po_load rfl (by exact fc_flat_27) (by rfl)) ?_
  refine rp 1 rfl ?_
  refine Wc (co_fn rfl rfl) (grid_Tile m.g i okg hi) ?_
  rintro v31 _ ⟨tc, rfl, rfl⟩
  try dsimp only [ca, na, GridS.l, GridS.p, MeshS.l, MeshS.lF, MeshS.p]
  refine rp 3 rfl ?_
  refine Wx (xo_alloc (by exact fc_zero_41)) ?_
  rintro _ _ ⟨b7, rfl, rfl⟩
  refine Ws (so_storea1 rfl rfl (by exact fc_agg_41_3) rfl rfl) ?_
  refine rp 1 rfl ?_
  refine Sn (Aw ?_)
  refine r_joink (S := Nat × Value) (fun ⟨b9, nv⟩ => [(9, .pointer (some ⟨b9, 0, none⟩))]) [(4, _), (5, _), (6, _), (7, _)] (fun ⟨b9, nv⟩ => Blk b9 124 [.int .i64 (if 0 ≤ i ∧ i < m.g.vs.length then cAt m.g.vs i else 0), nv, .slice none 0 0] :: Sl eI nv (nodesN m.g.w m.g.h m.g.c i) :: Blk b7 41 [.int .i64 (tileN m.g i).w, .int .i64 (tileN m.g i).h, tc] :: Sl eB tc (tileN m.g i).c :: Blk b4 124 [.int .i64 0, .slice none 0 0, .slice none 0 0] :: m.lF F) (fun ⟨b9, nv⟩ => True) (And.intro rfl (And.intro rfl (And.intro rfl (And.intro rfl (trivial))))) ?_ ?_
  ·skip
   refine r_tree [14] _ 15 fc_mixed (by kernel_rfl) (fun _ h => h) ?_
   refine t_fr (i := 0) (by kernel_rfl) rfl (po_move rfl) rfl rfl rfl ?_
   refine t_fr (i := 1) (by kernel_rfl) rfl (po_nil rfl) rfl rfl rfl ?_
   refine t_fr (i := 2) (by kernel_rfl) rfl (po_faddr rfl (by exact fc_field_101_0_0)) rfl rfl rfl ?_
   refine t_rd (i := 3) (by kernel_rfl) rfl (po_load rfl (by exact fc_flat_27) (by rfl)) (by first | exact fun _ h => h | exact ent) rfl rfl rfl ?_
   refine t_fr (i := 4) (by kernel_rfl) rfl (po_move rfl) rfl rfl rfl ?_
   refine t_fr (i := 6) (by kernel_rfl) rfl (po_move rfl) rfl rfl rfl ?_
   refine t_fr (i := 7) (by kernel_rfl) rfl (po_nil rfl) rfl rfl rfl ?_
   refine t_fr (i := 8) (by kernel_rfl) rfl (po_faddr rfl (by exact fc_field_101_0_0)) rfl rfl rfl ?_
   refine t_rd (i := 9) (by kernel_rfl) rfl (po_load rfl (by exact fc_flat_27) (by rfl)) (by first | exact fun _ h => h | exact ent) rfl rfl rfl ?_
   refine t_fr (i := 10) (by kernel_rfl) rfl (po_move rfl) rfl rfl rfl ?_
   refine t_br2 (i := 5) (j := 13) (by kernel_rfl) ?_ ?_
   ·skip
    refine tb rfl (st_call (co_fn rfl rfl) (grid_Version m.g i) (by infer_instance) rfl rfl rfl ?_)
    rintro v39 _ ⟨rfl, rfl⟩
    try dsimp only [ca, na, GridS.l, GridS.p, MeshS.l, MeshS.lF, MeshS.p]
    refine ⟨fun _ => (by first | exact fun _ h => h | exact ent), ?_⟩
    refine t_br2 (i := 11) (j := 13) (by kernel_rfl) ?_ ?_
    ·skip
     refine tb rfl (st_call (co_fn rfl rfl) (border_Nodes m.g i okg.bytes) (by infer_instance) rfl rfl rfl ?_)
     rintro v45 _ rfl
     try dsimp only [ca, na, GridS.l, GridS.p, MeshS.l, MeshS.lF, MeshS.p]
     refine ⟨fun _ => (by first | exact fun _ h => h | exact ent), ?_⟩
     refine t_br2 (i := 12) (j := 13) (by kernel_rfl) ?_ ?_
     ·skip
      refine tb rfl (st_po (po_build1 rfl (by exact fc_zero_124) (by exact fc_places_124_0_1) (by exact fc_info_124) rfl) rfl rfl rfl ?_)
      refine ⟨fun _ => (by first | exact fun _ h => h | exact ent), ?_⟩
      refine t_st (i := 13) (by kernel_rfl) rfl (st_xo (xo_alloc (by exact fc_zero_124)) rfl rfl rfl ?_)
      rintro _ _ ⟨b9, rfl, rfl⟩
      refine ⟨fun _ => (by first | exact fun _ h => h | exact ent), ?_⟩
      refine t_st (i := 14) (by kernel_rfl) rfl (st_so (so_storea1 rfl rfl (by exact fc_agg_124_3) rfl rfl) rfl rfl ?_)
      refine ⟨fun h => late_no h (by kernel_rfl), ?_⟩
      refine t_nil (by kernel_rfl) ?_
      exact at_join ((b9, v45)) (And.intro rfl (trivial)) (And.intro rfl (And.intro rfl (And.intro rfl (And.intro rfl (trivial))))) (trivial) ent
     ·skip
      refine tb rfl (st_xo (xo_alloc (by exact fc_zero_124)) rfl rfl rfl ?_)
      rintro _ _ ⟨b9, rfl, rfl⟩
      refine ⟨fun _ => (by first | exact fun _ h => h | exact ent), ?_⟩
      refine t_st (i := 12) (by kernel_rfl) rfl (st_po (po_build1 rfl (by exact fc_zero_124) (by exact fc_places_124_0_1) (by exact fc_info_124) rfl) rfl rfl rfl ?_)
      refine ⟨fun _ => (by first | exact fun _ h => h | exact ent), ?_⟩
      refine t_st (i := 14) (by kernel_rfl) rfl (st_so (so_storea1 rfl rfl (by exact fc_agg_124_3) rfl rfl) rfl rfl ?_)
      refine ⟨fun h => late_no h (by kernel_rfl), ?_⟩
      refine t_nil (by kernel_rfl) ?_
      exact at_join ((b9, v45)) (And.intro rfl (trivial)) (And.intro rfl (And.intro rfl (And.intro rfl (And.intro rfl (trivial))))) (trivial) ent
    ·skip
     refine tb rfl (st_xo (xo_alloc (by exact fc_zero_124)) rfl rfl rfl ?_)
     rintro _ _ ⟨b9, rfl, rfl⟩
     refine ⟨fun _ => (by first | exact fun _ h => h | exact ent), ?_⟩
     refine t_st (i := 11) (by kernel_rfl) rfl (st_call (co_fn rfl rfl) (border_Nodes m.g i okg.bytes) (by infer_instance) rfl rfl rfl ?_)
     rintro v45 _ rfl
     try dsimp only [ca, na, GridS.l, GridS.p, MeshS.l, MeshS.lF, MeshS.p]
     refine ⟨fun _ => (by first | exact fun _ h => h | exact ent), ?_⟩
     refine t_st (i := 12) (by kernel_rfl) rfl (st_po (po_build1 rfl (by exact fc_zero_124) (by exact fc_places_124_0_1) (by exact fc_info_124) rfl) rfl rfl rfl ?_)
     refine ⟨fun _ => (by first | exact fun _ h => h | exact ent), ?_⟩
     refine t_st (i := 14) (by kernel_rfl) rfl (st_so (so_storea1 rfl rfl (by exact fc_agg_124_3) rfl rfl) rfl rfl ?_)
     refine ⟨fun h => late_no h (by kernel_rfl), ?_⟩
     refine t_nil (by kernel_rfl) ?_
     exact at_join ((b9, v45)) (And.intro rfl (trivial)) (And.intro rfl (And.intro rfl (And.intro rfl (And.intro rfl (trivial))))) (trivial) ent
   ·skip
    refine tb rfl (st_xo (xo_alloc (by exact fc_zero_124)) rfl rfl rfl ?_)
    rintro _ _ ⟨b9, rfl, rfl⟩
    refine ⟨fun _ => (by first | exact fun _ h => h | exact ent), ?_⟩
    refine t_st (i := 5) (by kernel_rfl) rfl (st_call (co_fn rfl rfl) (grid_Version m.g i) (by infer_instance) rfl rfl rfl ?_)
    rintro v39 _ ⟨rfl, rfl⟩
    try dsimp only [ca, na, GridS.l, GridS.p, MeshS.l, MeshS.lF, MeshS.p]
    refine ⟨fun _ => (by first | exact fun _ h => h | exact ent), ?_⟩
    refine t_st (i := 11) (by kernel_rfl) rfl (st_call (co_fn rfl rfl) (border_Nodes m.g i okg.bytes) (by infer_instance) rfl rfl rfl ?_)
    rintro v45 _ rfl
    try dsimp only [ca, na, GridS.l, GridS.p, MeshS.l, MeshS.lF, MeshS.p]
    refine ⟨fun _ => (by first | exact fun _ h => h | exact ent), ?_⟩
    refine t_st (i := 12) (by kernel_rfl) rfl (st_po (po_build1 rfl (by exact fc_zero_124) (by exact fc_places_124_0_1) (by exact fc_info_124) rfl) rfl rfl rfl ?_)
    refine ⟨fun _ => (by first | exact fun _ h => h | exact ent), ?_⟩
    refine t_st (i := 14) (by kernel_rfl) rfl (st_so (so_storea1 rfl rfl (by exact fc_agg_124_3) rfl rfl) rfl rfl ?_)
    refine ⟨fun h => late_no h (by kernel_rfl), ?_⟩
    refine t_nil (by kernel_rfl) ?_
    exact at_join ((b9, v45)) (And.intro rfl (trivial)) (And.intro rfl (And.intro rfl (And.intro rfl (And.intro rfl (trivial))))) (trivial) ent
  ·skip
   rintro ⟨b9, nv⟩ -
   try dsimp only [ca, na, GridS.l, GridS.p, MeshS.l, MeshS.lF, MeshS.p]
   refine Sq ?_
   rw [hver]
   refine wp_pure (rd_slv (E := eI) (v := nv)) (fun hsn => ?_)
   obtain ⟨sn, rfl⟩ := hsn
   refine Rg ?_
   refine rp 1 rfl ?_
   refine Sn (Aw (Sq (Sq (Rg ?_))))
   refine Wp (po_faddr rfl (by exact fc_field_124_1_1)) ?_
   refine Wp (po_load rfl (by exact fc_flat_35) (by rfl)) ?_
   refine Wp (po_len rfl (by exact fc_slice_35_3_1)) ?_
   refine rp 1 rfl ?_
   refine Sn (Aw (Bk ?_))
   refine r_loop (S := Nat × Value × List Int) (fun ⟨k, lv, xs⟩ => [(10, lv), (50, .int .i64 k)]) [(4, _), (5, _), (6, _), (7, _), (9, _), (48, _), (49, _)] (fun ⟨k, lv, xs⟩ => Sl eI lv xs :: Blk b9 124 [.int .i64 (m.g.vs[i.toNat]'(by omega)), sn.v, .slice none 0 0] :: Sl eI sn.v (nodesN m.g.w m.g.h m.g.c i) :: Blk b7 41 [.int .i64 (tileN m.g i).w, .int .i64 (tileN m.g i).h, tc] :: Sl eB tc (tileN m.g i).c :: Blk b4 124 [.int .i64 0, .slice none 0 0, .slice none 0 0] :: m.lF F) (fun ⟨k, lv, xs⟩ => k ≤ (nodesN m.g.w m.g.h m.g.c i).length ∧ xs = ((nodesN m.g.w m.g.h m.g.c i).take k).map (localN m.g.w m.g.h)) (fun ⟨k, lv, xs⟩ => (nodesN m.g.w m.g.h m.g.c i).length - k) ((0, .slice none 0 0, [])) (And.intro rfl (And.intro rfl (And.intro rfl (And.intro rfl (And.intro rfl (And.intro rfl (And.intro rfl (trivial)))))))) (And.intro rfl (And.intro rfl (trivial))) (⟨by omega, rfl⟩) ent ?_
   rintro ⟨k, lv, xs⟩ ⟨hk, hxs⟩
   try dsimp only [ca, na, GridS.l, GridS.p, MeshS.l, MeshS.lF, MeshS.p]
   have hxl : xs.length = k := by rw [hxs]; simp; omega
   refine Sq (Rg ?_)
   refine Wp (po_lt rfl rfl) ?_
   refine Sn (Aw (Sq ?_))
   refine Rc rfl ?_ ?_
   ·skip
    intro hlt
    refine Sk (Aw (Sq (Bk (Sq (Rg ?_)))))
    refine Wp (po_iaddr rfl rfl (by exact fc_slice_35_3_1) (by first | omega | (simp <;> omega)) (by first | omega | (simp <;> omega))) ?_
    refine Wp (po_load_sl rfl (List.getElem?_eq_getElem (by first | omega | (simp <;> omega))) (by exact fc_flat_3) (by rfl)) ?_
    refine rp 1 rfl ?_
    refine Sn (Aw (Rg ?_))
    refine rp 4 rfl ?_
    refine Wc (co_fn rfl rfl) (where_Local m.g.w m.g.h _) ?_
    rintro v58 _ ⟨rfl, rfl⟩
    try dsimp only [ca, na, GridS.l, GridS.p, MeshS.l, MeshS.lF, MeshS.p]
    refine Wx (xo_bslice eI [_] rfl (by exact fc_slice_35_3_1) (by exact fc_elem_3_1_8) ⟨rfl, rfl, trivial⟩ rfl (by decide)) ?_
    rintro v59 _ rfl
    refine Wx (xo_append rfl rfl (by exact fc_slice_35_3_1) (by exact fc_slice_35_3_1) (by exact fc_elem_3_1_8) (by first | omega | (simp <;> omega)) (by first | omega | (simp <;> omega))) ?_
    rintro v60 _ rfl
    refine rp 1 rfl ?_
    refine Sn (Bn (Aw (Rg ?_)))
    refine Wp (po_add' rfl rfl (by omega) (by omega)) ?_
    refine rp 1 rfl ?_
    refine Sn ?_
    simp only [Int.toNat_natCast]
    exact at_again ((k + 1, v60, xs ++ [localN m.g.w m.g.h ((nodesN m.g.w m.g.h m.g.c i)[k]'(by omega))])) (And.intro rfl (And.intro rfl (trivial))) (And.intro rfl (And.intro rfl (And.intro rfl (And.intro rfl (And.intro rfl (And.intro rfl (And.intro rfl (trivial)))))))) (⟨by omega, by show xs ++ _ = _; rw [take_snoc _ k (by omega), List.map_append]; exact congrArg (fun z => z ++ _) hxs⟩) (by omega) ent
   ·skip
    intro hlt
    refine Ex' (Ax (Ax (Bh (Aw (Sq ?_)))))
    have hxe : xs = (nodesN m.g.w m.g.h m.g.c i).map (localN m.g.w m.g.h) := by rw [hxs, List.take_of_length_le (by omega)]
    rw [← hxe] at hlo
    refine Rg ?_
    refine Wp (po_loada rfl (by exact fc_agg_41_3) (by rfl)) ?_
    refine rp 1 rfl ?_
    refine Wc (co_fn rfl rfl) (table_Make tc lv (tileN m.g i) xs hlo) ?_
    rintro v65 _ ⟨ov, out, rfl, rfl, hol, hcol⟩
    try dsimp only [ca, na, GridS.l, GridS.p, MeshS.l, MeshS.lF, MeshS.p]
    have hob : out.length ≤ 65536 := by rw [hol]; exact Nat.mul_le_mul (show xs.length ≤ 256 by rw [hxe, List.length_map]; exact hnl) (show xs.length ≤ 256 by rw [hxe, List.length_map]; exact hnl)
    refine rp 5 rfl ?_
    refine Sn (Aw (Sq (Rg ?_)))
    refine rp 1 rfl ?_
    refine Wp (po_len rfl (by exact fc_slice_35_3_1)) ?_
    refine Wx (xo_make eW (0) rfl rfl (by exact fc_slice_82_21_1) (by exact fc_elem_21_1_4) (by exact fc_zero_21) rfl (by first | omega | (simp <;> omega)) (by first | omega | (simp <;> omega)) (by first | omega | (simp <;> omega))) ?_
    rintro v70 _ rfl
    refine Wp (po_faddr rfl (by exact fc_field_124_2_2)) ?_
    refine Ws (so_store1 rfl rfl (by exact fc_flat_82) rfl) ?_
    refine Sn (Aw (Sq (Sq (Rg ?_))))
    refine rp 1 rfl ?_
    refine Wp (po_len rfl (by exact fc_slice_35_3_1)) ?_
    refine rp 1 rfl ?_
    refine Sn (Aw (Bk ?_))
    rw [Int.toNat_natCast, fillW_0]
    refine wp_pure (rd_slv (E := eW) (v := v70)) (fun hsd => ?_)
    obtain ⟨sd, rfl⟩ := hsd
    have hcr := col_rng hlo hol hcol
    refine r_loop (S := Nat) (fun k2 => [(74, .int .i64 k2)]) [(4, _), (9, _), (72, _), (73, _)] (fun k2 => Sl eW sd.v (fillW out k2) :: Sl eI ov out :: Blk b9 124 [.int .i64 (m.g.vs[i.toNat]'(by omega)), sn.v, sd.v] :: Sl eI sn.v (nodesN m.g.w m.g.h m.g.c i) :: Blk b4 124 [.int .i64 0, .slice none 0 0, .slice none 0 0] :: m.lF F) (fun k2 => k2 ≤ out.length) (fun k2 => out.length - k2) (0) (And.intro rfl (And.intro rfl (And.intro rfl (And.intro rfl (trivial))))) (And.intro rfl (trivial)) (by omega) ent ?_
    rintro k2 hk2
    try dsimp only [ca, na, GridS.l, GridS.p, MeshS.l, MeshS.lF, MeshS.p]
    have hfl := fillW_len hk2
    refine Sq (Rg ?_)
    refine Wp (po_lt rfl rfl) ?_
    refine Sn (Aw (Sq ?_))
    refine Rc rfl ?_ ?_
    ·skip
     intro hlt2
     have hcv := hcr _ (List.getElem_mem (show (k2 : Int).toNat < out.length by omega))
     have hfs := fillW_set (show k2 < out.length by omega)
     refine Sk (Aw (Sq (Bk (Sq (Rg ?_)))))
     refine rp 1 rfl ?_
     refine Wp (po_iaddr rfl rfl (by exact fc_slice_35_3_1) (by first | omega | (simp <;> omega)) (by first | omega | (simp <;> omega))) ?_
     refine Wp (po_load_sl rfl (List.getElem?_eq_getElem (by first | omega | (simp <;> omega))) (by exact fc_flat_3) (by rfl)) ?_
     refine rp 2 rfl ?_
     refine Sn (Aw (Sq (Rg ?_)))
     refine Wp (po_faddr rfl (by exact fc_field_124_2_2)) ?_
     refine Wp (po_load rfl (by exact fc_flat_82) (by rfl)) ?_
     refine rp 1 rfl ?_
     refine Wp (po_iaddr rfl rfl (by exact fc_slice_82_21_1) (by first | omega | (simp <;> omega)) (by first | omega | (simp <;> omega))) ?_
     refine Ws (so_store_sl rfl rfl (List.getElem?_eq_getElem (by first | omega | (simp <;> omega))) (by exact fc_flat_21) (by decide) (by rfl) (by rfl)) ?_
     refine Sn (Aw (Sq (Rg ?_)))
     refine rp 1 rfl ?_
     refine Wp (po_ne rfl rfl) ?_
     refine Sn (Aw ?_)
     refine Rc rfl ?_ ?_
     ·skip
      intro hne
      refine Rg ?_
      refine Wp (po_faddr rfl (by exact fc_field_124_2_2)) ?_
      refine Wp (po_load rfl (by exact fc_flat_82) (by rfl)) ?_
      refine rp 2 rfl ?_
      refine Wp (po_conv_w rfl (by exact fc_int_3_i64) (by exact fc_int_21_i32) (wrap_i32 _ (by omega) (by omega))) ?_
      refine Wp (po_iaddr rfl rfl (by exact fc_slice_82_21_1) (by first | omega | (simp <;> omega)) (by first | omega | (simp <;> omega))) ?_
      refine Ws (so_store_sl rfl rfl (List.getElem?_eq_getElem (by first | omega | (simp <;> omega))) (by exact fc_flat_21) (by decide) (by rfl) (by rfl)) ?_
      refine Sn (Bn (Aw (Rg ?_)))
      refine Wp (po_add' rfl rfl (by omega) (by omega)) ?_
      refine rp 1 rfl ?_
      refine Sn ?_
      simp only [Int.toNat_natCast] at hne ⊢
      rw [List.set_set]
      rw [wInf, if_neg hne] at hfs
      rw [hfs]
      exact at_again (k2 + 1) (And.intro rfl (trivial)) (And.intro rfl (And.intro rfl (And.intro rfl (And.intro rfl (trivial))))) (by omega) (by omega) ent
     ·skip
      intro hne
      refine Sk (Bn (Aw (Rg ?_)))
      refine Wp (po_add' rfl rfl (by omega) (by omega)) ?_
      refine rp 1 rfl ?_
      refine Sn ?_
      simp only [Int.toNat_natCast] at hne ⊢
      rw [wInf, if_pos (Classical.not_not.1 hne)] at hfs
      rw [hfs]
      exact at_again (k2 + 1) (And.intro rfl (trivial)) (And.intro rfl (And.intro rfl (And.intro rfl (And.intro rfl (trivial))))) (by omega) (by omega) ent
    ·skip
     intro hlt2
     refine Ex' (Ax (Ax (Bh (Aw (Sq (Rg ?_))))))
     refine Wp (po_loada rfl (by exact fc_agg_124_3) (by rfl)) ?_
     refine Ws (so_storea1 rfl rfl (by exact fc_agg_124_3) rfl rfl) ?_
     refine Sn (Aw (Rt ?_))
     rw [show k2 = out.length by omega, fillW_n]
     refine at_ret1 rfl (rv_cella rfl (by exact fc_agg_124_3) (by rfl)) ⟨_, ⟨⟨_, sn, nodesN m.g.w m.g.h m.g.c i, sd, out.map wInf⟩, rfl, rfl, part_of okg hi hlo hxe hol hcol hcr, List.getElem?_eq_getElem _⟩, ?_⟩
     try dsimp only [ca, na, GridS.l, GridS.p, MeshS.l, MeshS.lF, MeshS.p]
     exact ent
end Hd
end
section
namespace Hd
set_option maxRecDepth 100000
open Go

/-- is a part not of the version that the grid has? -/
def dty (m : MeshS) (i : Nat) : Bool := match m.ps[i]? with
  | some x => decide (m.g.vs[i]? ≠ some x.ver)
  | none => false
def dirtyTo (m : MeshS) (k : Nat) : List Int := ((List.range k).filter (dty m)).map fun (i : Nat) => (i : Int)
theorem dirtyTo_succ (m : MeshS) (k : Nat) : dirtyTo m (k + 1) = dirtyTo m k ++ if dty m k = true then [(k : Int)] else [] := by
  unfold dirtyTo
  rw [List.range_succ, List.filter_append, List.map_append]
  congr 1
  by_cases e : dty m k = true <;> simp [e]
theorem dirtyTo_len (m : MeshS) (k : Nat) : (dirtyTo m k).length ≤ k := by
  unfold dirtyTo; rw [List.length_map]; exact Nat.le_trans (List.length_filter_le _ _) (by simp)
theorem dirty_clean {m : MeshS} (ok : MeshOk m) (h : m.clean = m.g.ep) : dirtyTo m m.ps.length = [] := by
  unfold dirtyTo
  rw [List.map_eq_nil_iff, List.filter_eq_nil_iff]
  intro i hi
  unfold dty
  cases e : m.ps[i]? with
  | none => simp
  | some x => simp [ok.clean h i x e]

theorem mesh_Dirty (m : MeshS) (ok : MeshOk m) : Spec PP 90 #[m.p] m.l (fun v M => M = m.l ++ [Sl eI v (dirtyTo m m.ps.length)]) := by
  have hvl := ok.g.vlen
  have hpl := ok.len
  have hap := acr_pos ok.g.may
  have hmul := mul_1k (a := acrN m.g.w) (b := acrN m.g.h) (by omega) (by omega) (by omega) (by omega)
  refine spec_of (Go.Proofs.Tryz.func90) rfl rfl rfl (by exact fc_enters_90) ?_
  intro g F
  try dsimp only [ca, na, GridS.l, GridS.p, MeshS.l, MeshS.lF, MeshS.p]
  refine Sq (Rg ?_)
  refine rp 1 rfl ?_
  refine Sn (Aw (Sq (Sq ?_)))
  refine r_ord [] _ [(0, 1), (1, 1), (2, 1), (3, 1), (4, 1), (5, 1), (6, 0), (7, 1), (8, 1), (9, 1), (10, 0), (11, 2), (12, 1), (13, 1)] fc_mixed (by kernel_rfl) (fun _ h => h) ?_
  refine Of rfl (po_move rfl) ?_
  refine Of rfl (po_peq rfl rfl (by exact fc_ptr_63)) ?_
  refine Of rfl (po_bf (po_move rfl) (rfl)) ?_
  refine Of rfl (po_move rfl) ?_
  refine Of rfl (po_nil rfl) ?_
  refine Of rfl (po_faddr rfl (by exact fc_field_101_2_2)) ?_
  refine Or rfl (po_load rfl (by exact fc_flat_2) (by rfl)) ?_
  refine Of rfl (po_move rfl) ?_
  refine Of rfl (po_nil rfl) ?_
  refine Of rfl (po_faddr rfl (by exact fc_field_101_0_0)) ?_
  refine Or rfl (po_load rfl (by exact fc_flat_27) (by rfl)) ?_
  refine o_st rfl (st_call (co_fn rfl rfl) (grid_Epoch m.g) (by infer_instance) rfl rfl rfl ?_)
  rintro v16 _ ⟨rfl, rfl⟩
  try dsimp only [ca, na, GridS.l, GridS.p, MeshS.l, MeshS.lF, MeshS.p]
  refine ⟨fun _ => (by first | exact fun _ h => h | exact ent), ?_⟩
  refine Of rfl (po_eq rfl rfl) ?_
  refine Of rfl (po_pick_f rfl rfl) ?_
  refine o_nil ?_
  refine Aw ?_
  refine Rc rfl ?_ ?_
  ·skip
   intro hcl
   refine Sq (Rg ?_)
   refine rp 1 rfl ?_
   refine Sn (Aw (Rt (Ar ?_)))
   rw [dirty_clean ok hcl]
   refine at_ret1 rfl (rv_tmp rfl) ⟨_, rfl, ?_⟩
   try dsimp only [ca, na, GridS.l, GridS.p, MeshS.l, MeshS.lF, MeshS.p]
   exact ent
  ·skip
   intro hcl
   refine Sk (Aw (Sq (Rg ?_)))
   refine rp 1 rfl ?_
   refine Sn (Aw (Sq (Sq (Rg ?_))))
   refine rp 2 rfl ?_
   refine Wp (po_faddr rfl (by exact fc_field_101_1_1)) ?_
   refine Wp (po_load rfl (by exact fc_flat_99) (by rfl)) ?_
   refine Wp (po_len rfl (by exact fc_slice_99_124_3)) ?_
   refine rp 1 rfl ?_
   refine Sn (Aw (Bk ?_))
   refine r_loop (S := Nat × Value × List Int) (fun ⟨k, ov, xs⟩ => [(3, ov), (24, .int .i64 k)]) [(0, _), (23, _)] (fun ⟨k, ov, xs⟩ => Sl eI ov xs :: m.lF F) (fun ⟨k, ov, xs⟩ => k ≤ m.ps.length ∧ xs = dirtyTo m k) (fun ⟨k, ov, xs⟩ => m.ps.length - k) ((0, .slice none 0 0, [])) (And.intro rfl (And.intro rfl (trivial))) (And.intro rfl (And.intro rfl (trivial))) (⟨by omega, rfl⟩) ent ?_
   rintro ⟨k, ov, xs⟩ ⟨hk, hxs⟩
   try dsimp only [ca, na, GridS.l, GridS.p, MeshS.l, MeshS.lF, MeshS.p]
   have hxl := dirtyTo_len m k
   rw [← hxs] at hxl
   refine Sq (Rg ?_)
   refine Wp (po_lt rfl rfl) ?_
   refine Sn (Aw (Sq ?_))
   refine Rc rfl ?_ ?_
   ·skip
    intro hlt
    have hver : (if 0 ≤ (k : Int) ∧ (k : Int) < m.g.vs.length then cAt m.g.vs k else 0) = m.g.vs[k]'(by omega) := by rw [if_pos (by omega)]; exact gAt_nat (by omega)
    have hdt : dty m k = decide ((m.ps[(k : Int).toNat]'(by omega)).ver ≠ (if 0 ≤ (k : Int) ∧ (k : Int) < m.g.vs.length then cAt m.g.vs k else 0)) := by
          rw [hver, dty, List.getElem?_eq_getElem (show k < m.ps.length by omega), List.getElem?_eq_getElem (show k < m.g.vs.length by omega)]
          simp [eq_comm]
    refine Sk (Aw (Sq (Bk (Sq (Rg ?_)))))
    refine rp 2 rfl ?_
    refine Sn (Aw (Sq ?_))
    refine r_ord [] _ [(0, 1), (1, 1), (2, 1), (3, 0), (4, 1), (5, 0), (6, 0), (7, 0), (8, 1), (9, 1), (10, 1), (11, 0), (12, 1), (13, 2), (14, 1)] fc_mixed (by kernel_rfl) (fun _ h => h) ?_
    refine Of rfl (po_move rfl) ?_
    refine Of rfl (po_nil rfl) ?_
    refine Of rfl (po_faddr rfl (by exact fc_field_101_1_1)) ?_
    refine Or rfl (po_load rfl (by exact fc_flat_99) (by rfl)) ?_
    refine Of rfl (po_move rfl) ?_
    refine Or rfl (po_iaddr rfl rfl (by exact fc_slice_99_124_3) (by first | omega | (simp <;> omega)) (by first | omega | (simp <;> omega))) ?_
    refine Or rfl (po_faddr_sl rfl (by omega) (by exact fc_field_124_0_0)) ?_
    refine Or rfl (po_load_sl rfl (List.getElem?_eq_getElem (by first | omega | (simp <;> omega))) (by exact fc_flat_2) (by rfl)) ?_
    refine Of rfl (po_move rfl) ?_
    refine Of rfl (po_nil rfl) ?_
    refine Of rfl (po_faddr rfl (by exact fc_field_101_0_0)) ?_
    refine Or rfl (po_load rfl (by exact fc_flat_27) (by rfl)) ?_
    refine Of rfl (po_move rfl) ?_
    refine o_st rfl (st_call (co_fn rfl rfl) (grid_Version m.g k) (by infer_instance) rfl rfl rfl ?_)
    rintro v40 _ ⟨rfl, rfl⟩
    try dsimp only [ca, na, GridS.l, GridS.p, MeshS.l, MeshS.lF, MeshS.p]
    refine ⟨fun _ => (by first | exact fun _ h => h | exact ent), ?_⟩
    refine Of rfl (po_ne rfl rfl) ?_
    refine o_nil ?_
    refine Aw ?_
    refine Rc rfl ?_ ?_
    ·skip
     intro hne
     refine Rg ?_
     refine rp 2 rfl ?_
     refine Wx (xo_bslice eI [_] rfl (by exact fc_slice_35_3_1) (by exact fc_elem_3_1_8) ⟨rfl, rfl, trivial⟩ rfl (by decide)) ?_
     rintro v44 _ rfl
     refine Wx (xo_append rfl rfl (by exact fc_slice_35_3_1) (by exact fc_slice_35_3_1) (by exact fc_elem_3_1_8) (by first | omega | (simp <;> omega)) (by first | omega | (simp <;> omega))) ?_
     rintro v45 _ rfl
     refine rp 1 rfl ?_
     refine Sn (Bn (Aw (Rg ?_)))
     refine Wp (po_add' rfl rfl (by omega) (by omega)) ?_
     refine rp 1 rfl ?_
     refine Sn ?_
     exact at_again ((k + 1, v45, xs ++ [(k : Int)])) (And.intro rfl (And.intro rfl (trivial))) (And.intro rfl (And.intro rfl (trivial))) (⟨by omega, by rw [dirtyTo_succ, if_pos (by rw [hdt]; exact decide_eq_true hne)]; exact congrArg (fun z => z ++ _) hxs⟩) (by omega) ent
    ·skip
     intro hne
     refine Sk (Bn (Aw (Rg ?_)))
     refine Wp (po_add' rfl rfl (by omega) (by omega)) ?_
     refine rp 1 rfl ?_
     refine Sn ?_
     exact at_again ((k + 1, ov, xs)) (And.intro rfl (And.intro rfl (trivial))) (And.intro rfl (And.intro rfl (trivial))) (⟨by omega, by rw [dirtyTo_succ, if_neg (by rw [hdt]; simpa using hne), List.append_nil]; exact hxs⟩) (by omega) ent
   ·skip
    intro hlt
    refine Ex' (Ax (Ax (Bh (Aw (Sq (Rg ?_))))))
    refine rp 2 rfl ?_
    refine Sn (Aw (Rt ?_))
    rw [show k = m.ps.length by omega] at hxs
    subst hxs
    refine at_ret1 rfl (rv_tmp rfl) ⟨_, rfl, ?_⟩
    try dsimp only [ca, na, GridS.l, GridS.p, MeshS.l, MeshS.lF, MeshS.p]
    exact ent

theorem dirty_mem {m : MeshS} {i : Int} (h : i ∈ dirtyTo m m.ps.length) : 0 ≤ i ∧ i < m.ps.length := by
  obtain ⟨j, hj, rfl⟩ := List.mem_map.1 h
  have := List.mem_range.1 (List.mem_filter.1 hj).1
  omega
theorem dirty_not {m : MeshS} {i : Nat} {x : PartS} (hx : m.ps[i]? = some x) (h : (i : Int) ∉ dirtyTo m m.ps.length) : m.g.vs[i]? = some x.ver := by
  apply Classical.byContradiction
  intro hn
  apply h
  refine List.mem_map.2 ⟨i, List.mem_filter.2 ⟨List.mem_range.2 (lt_of_get hx), ?_⟩, rfl⟩
  unfold dty
  rw [hx]
  exact decide_eq_true hn
theorem mesh_Rebuild (m : MeshS) (ok : MeshOk m) : Spec PP 62 #[m.p] m.l
    (fun v M => ∃ m' : MeshS, v = .int .i64 (dirtyTo m m.ps.length).length ∧ M = m'.l ∧ MeshOk m' ∧ m'.clean = m.g.ep ∧ m'.g = m.g ∧ m'.b = m.b ∧ m'.pv = m.pv ∧ m'.count = min (m.count + (dirtyTo m m.ps.length).length) 18446744073709551615) := by
  have hvl := ok.g.vlen
  have hpl := ok.len
  have hap := acr_pos ok.g.may
  have hmul := mul_1k (a := acrN m.g.w) (b := acrN m.g.h) (by omega) (by omega) (by omega) (by omega)
  have hdl := dirtyTo_len m m.ps.length
  have hct := ok.cnt
  refine spec_of (Go.Proofs.Tryz.func62) rfl rfl rfl (by exact fc_enters_62) ?_
  intro g F
  try dsimp only [ca, na, GridS.l, GridS.p, MeshS.l, MeshS.lF, MeshS.p]
  refine Sq (Rg ?_)
  refine rp 1 rfl ?_
  refine Sn (Aw (Sq (Sq (Rg ?_))))
  refine rp 1 rfl ?_
  refine Wp (po_peq rfl rfl (by exact fc_ptr_63)) ?_
  refine Sn (Aw ?_)
  refine r_cond_f rfl (rfl) ?_
  refine Sk (Aw (Sq (Rg ?_)))
  refine rp 1 rfl ?_
  refine Wc (co_fn rfl rfl) (mesh_Dirty m ok) ?_
  rintro v9 _ rfl
  try dsimp only [ca, na, GridS.l, GridS.p, MeshS.l, MeshS.lF, MeshS.p]
  refine rp 1 rfl ?_
  refine Sn (Aw (Sq (Sq (Rg ?_))))
  refine rp 1 rfl ?_
  refine Wp (po_len rfl (by exact fc_slice_35_3_1)) ?_
  refine rp 1 rfl ?_
  refine Sn (Aw (Bk ?_))
  refine r_loop (S := Nat × List PartS × Int) (fun ⟨k, ps, cnt⟩ => [(12, .int .i64 k)]) [(0, _), (3, _), (10, _), (11, _)] (fun ⟨k, ps, cnt⟩ => Sl eI v9 (dirtyTo m m.ps.length) :: ({ m with ps := ps, count := cnt } : MeshS).lF F) (fun ⟨k, ps, cnt⟩ => k ≤ (dirtyTo m m.ps.length).length ∧ ps.length = m.ps.length ∧ cnt = min (m.count + k) 18446744073709551615 ∧ (∀ (i : Nat) x, ps[i]? = some x → m.g.vs[i]? = some x.ver → PartOk m.g i x) ∧ (∀ (i : Nat) x, ps[i]? = some x → (i : Int) ∉ (dirtyTo m m.ps.length).drop k → m.g.vs[i]? = some x.ver)) (fun ⟨k, ps, cnt⟩ => (dirtyTo m m.ps.length).length - k) ((0, m.ps, m.count)) (And.intro rfl (And.intro rfl (And.intro rfl (And.intro rfl (trivial))))) (And.intro rfl (trivial)) (⟨by omega, rfl, by omega, ok.part, fun i x h1 h2 => dirty_not h1 h2⟩) ent ?_
  rintro ⟨k, ps, cnt⟩ ⟨hk, hpl2, hcnt, hpt, hfr⟩
  try dsimp only [ca, na, GridS.l, GridS.p, MeshS.l, MeshS.lF, MeshS.p]
  refine Sq (Rg ?_)
  refine Wp (po_lt rfl rfl) ?_
  refine Sn (Aw (Sq ?_))
  refine Rc rfl ?_ ?_
  ·skip
   intro hlt
   have hkl : k < (dirtyTo m m.ps.length).length := by omega
   have hdm := dirty_mem (List.getElem_mem hkl)
   have hdm' := dirty_mem (List.getElem_mem (show (k : Int).toNat < (dirtyTo m m.ps.length).length by omega))
   refine Sk (Aw (Sq (Bk (Sq (Rg ?_)))))
   refine Wp (po_iaddr rfl rfl (by exact fc_slice_35_3_1) (by first | omega | (simp <;> omega)) (by first | omega | (simp <;> omega))) ?_
   refine Wp (po_load_sl rfl (List.getElem?_eq_getElem (by first | omega | (simp <;> omega))) (by exact fc_flat_3) (by rfl)) ?_
   refine rp 1 rfl ?_
   refine Sn (Aw (Sq ?_))
   refine r_ord [9] _ [(0, 1), (1, 1), (2, 1), (3, 0), (4, 1), (5, 1), (6, 1), (7, 2), (8, 0), (9, 2)] fc_mixed (by kernel_rfl) (fun _ h => h) ?_
   refine Of rfl (po_move rfl) ?_
   refine Of rfl (po_nil rfl) ?_
   refine Of rfl (po_faddr rfl (by exact fc_field_101_1_1)) ?_
   refine Or rfl (po_load rfl (by exact fc_flat_99) (by rfl)) ?_
   refine Of rfl (po_move rfl) ?_
   refine Of rfl (po_move rfl) ?_
   refine Of rfl (po_move rfl) ?_
   refine o_st rfl (st_call (co_fn rfl rfl) (mesh_make { m with ps := ps, count := cnt } ok.g ((dirtyTo m m.ps.length)[k]'(by omega)) ⟨ok.g.may, hdm.1, by show (dirtyTo m m.ps.length)[k] < acrN m.g.w * acrN m.g.h; omega⟩) (by infer_instance) rfl rfl rfl ?_)
   rintro v23 _ ⟨x, rfl, rfl, hxp, hxv⟩
   try dsimp only [ca, na, GridS.l, GridS.p, MeshS.l, MeshS.lF, MeshS.p]
   refine ⟨fun _ => (by first | exact fun _ h => h | exact ent), ?_⟩
   refine Or rfl (po_iaddr rfl rfl (by exact fc_slice_99_124_3) (by first | omega | (simp <;> omega)) (by first | omega | (simp <;> omega))) ?_
   refine o_st rfl (st_so (st_eP rfl rfl (by first | omega | (simp <;> omega)) (by exact fc_agg_124_3)) rfl rfl ?_)
   refine ⟨fun h => late_no h (by kernel_rfl), ?_⟩
   refine o_nil ?_
   refine Aw (Rg ?_)
   refine rp 3 rfl ?_
   refine Wp (po_faddr rfl (by exact fc_field_101_3_3)) ?_
   refine Wp (po_load rfl (by exact fc_flat_96) (by rfl)) ?_
   refine Wc (co_fn rfl rfl) (tally_Add cnt (by omega) (by omega)) ?_
   rintro v30 _ ⟨⟨r, rfl, hr⟩, rfl⟩
   try dsimp only [ca, na, GridS.l, GridS.p, MeshS.l, MeshS.lF, MeshS.p]
   refine rp 1 rfl ?_
   refine Wp (po_faddr rfl (by exact fc_field_101_3_3)) ?_
   refine Ws (so_store1 rfl rfl (by exact fc_flat_96) rfl) ?_
   refine Sn (Bn (Aw (Rg ?_)))
   refine Wp (po_add' rfl rfl (by omega) (by omega)) ?_
   refine rp 1 rfl ?_
   refine Sn ?_
   simp only [Int.toNat_natCast]
   refine at_ent (ent_take slP ps (List.getElem?_eq_getElem (show ((dirtyTo m m.ps.length)[k]'(by omega)).toNat < ps.length by omega))) ?_
   refine at_ent (ent_put slP ps x (show ((dirtyTo m m.ps.length)[k]'(by omega)).toNat < ps.length by omega)) ?_
   exact at_again ((k + 1, ps.set ((dirtyTo m m.ps.length)[k]'(by omega)).toNat x, r)) (And.intro rfl (trivial)) (And.intro rfl (And.intro rfl (And.intro rfl (And.intro rfl (trivial))))) (⟨by omega, by simpa using hpl2, by show r = min (m.count + ((k + 1 : Nat) : Int)) 18446744073709551615; omega, fun i y h1 h2 => by
      rw [List.getElem?_set] at h1
      split at h1
      · rename_i e
        split at h1
        · cases h1; rw [← e]; rw [Int.toNat_of_nonneg hdm.1]; exact hxp
        · cases h1
      · exact hpt i y h1 h2, fun i y h1 h2 => by
      rw [List.getElem?_set] at h1
      split at h1
      · rename_i e
        split at h1
        · cases h1; rw [← e]; exact hxv
        · cases h1
      · rename_i e
        refine hfr i y h1 (fun h3 => ?_)
        rw [List.drop_eq_getElem_cons hkl] at h3
        rcases List.mem_cons.1 h3 with h3 | h3
        · omega
        · exact h2 h3⟩) (by omega) ent
  ·skip
   intro hlt
   refine Ex' (Ax (Ax (Bh (Aw (Sq (Rg ?_))))))
   refine rp 3 rfl ?_
   refine Wp (po_faddr rfl (by exact fc_field_101_0_0)) ?_
   refine Wp (po_load rfl (by exact fc_flat_27) (by rfl)) ?_
   refine Wc (co_fn rfl rfl) (grid_Epoch m.g) ?_
   rintro v39 _ ⟨rfl, rfl⟩
   try dsimp only [ca, na, GridS.l, GridS.p, MeshS.l, MeshS.lF, MeshS.p]
   refine rp 1 rfl ?_
   refine Wp (po_faddr rfl (by exact fc_field_101_2_2)) ?_
   refine Ws (so_store1 rfl rfl (by exact fc_flat_2) rfl) ?_
   refine Sn (Aw (Sq (Rg ?_)))
   refine rp 1 rfl ?_
   refine Wp (po_len rfl (by exact fc_slice_35_3_1)) ?_
   refine rp 1 rfl ?_
   refine Sn (Aw (Rt ?_))
   refine at_ret1 rfl (rv_tmp rfl) ⟨_, ⟨{ m with ps := ps, clean := m.g.ep, count := cnt }, rfl, rfl, ⟨ok.g, by show (ps.length : Int) = _; rw [hpl2]; exact hpl, ok.vs, by show 0 ≤ cnt ∧ cnt ≤ _; omega, Int.le_refl _, hpt, fun _ i x h => hfr i x h (by rw [List.drop_eq_nil_of_le (by omega)]; simp)⟩, rfl, rfl, rfl, rfl, by show cnt = _; rw [hcnt, show k = (dirtyTo m m.ps.length).length by omega]⟩, ?_⟩
   try dsimp only [ca, na, GridS.l, GridS.p, MeshS.l, MeshS.lF, MeshS.p]
   exact ent
end Hd
end
section
namespace Hd
set_option maxRecDepth 100000
open Go

/-- all parts are as the grid is -/
structure MeshFr (m : MeshS) : Prop where
  g : GridOk m.g
  len : (m.ps.length : Int) = acrN m.g.w * acrN m.g.h
  part : ∀ (i : Nat) x, m.ps[i]? = some x → PartOk m.g i x
theorem MeshOk.fresh {m : MeshS} (ok : MeshOk m) (h : m.clean = m.g.ep) : MeshFr m := ⟨ok.g, ok.len, fun i x hx => ok.part i x hx (ok.clean h i x hx)⟩
theorem MeshFr.iss {m : MeshS} (k : MeshFr m) {i : Int} : IsS m.g.w m.g.h i ↔ 0 ≤ i ∧ i < m.ps.length := by rw [k.len]; exact ⟨fun h => h.2, fun h => ⟨k.g.may, h⟩⟩

theorem mesh_Nodes (m : MeshS) (ok : MeshFr m) (i : Int) (hi : IsS m.g.w m.g.h i) : Spec PP 95 #[m.p, .int .i64 i] m.l (fun v M => M = m.l ++ [Sl eI v (nodesN m.g.w m.g.h m.g.c i)]) := by
  have hil := ok.iss.1 hi
  have hx : m.ps[i.toNat]? = some (m.ps[i.toNat]'(by omega)) := List.getElem?_eq_getElem (by omega)
  have hp := ok.part i.toNat _ hx
  have hnl := nodes_len m.g.w m.g.h m.g.c i
  have hpn : (m.ps[i.toNat]'(by omega)).nodes = nodesN m.g.w m.g.h m.g.c i := by rw [hp.nodes, Int.toNat_of_nonneg hil.1]
  refine spec_of (Go.Proofs.Tryz.func95) rfl rfl rfl (by exact fc_enters_95) ?_
  intro g F
  try dsimp only [ca, na, GridS.l, GridS.p, MeshS.l, MeshS.lF, MeshS.p]
  refine Sq (Rg ?_)
  refine rp 1 rfl ?_
  refine Sn (Aw (Sq (Sq (Rg ?_))))
  refine rp 1 rfl ?_
  refine Wp (po_peq rfl rfl (by exact fc_ptr_63)) ?_
  refine Wp (po_bf (po_move rfl) (rfl)) ?_
  refine rp 1 rfl ?_
  refine Wp (po_lt rfl rfl) ?_
  refine rp 1 rfl ?_
  refine Wp (po_bf (po_move rfl) (decide_eq_false (by omega))) ?_
  refine rp 3 rfl ?_
  refine Wp (po_faddr rfl (by exact fc_field_101_1_1)) ?_
  refine Wp (po_load rfl (by exact fc_flat_99) (by rfl)) ?_
  refine Wp (po_len rfl (by exact fc_slice_99_124_3)) ?_
  refine Wp (po_ge rfl rfl) ?_
  refine rp 1 rfl ?_
  refine Sn (Aw ?_)
  first | refine r_dec_f rfl (by omega) ?_ | refine r_nd_f rfl (by omega) ?_ | refine r_cond_f rfl (by omega) ?_
  refine Sk (Aw (Sq ?_))
  refine wp_ent (ent_take slP m.ps hx) ?_
  refine Rg ?_
  refine rp 2 rfl ?_
  refine Wp (po_faddr rfl (by exact fc_field_101_1_1)) ?_
  refine Wp (po_load rfl (by exact fc_flat_99) (by rfl)) ?_
  refine rp 1 rfl ?_
  refine Wp (po_iaddr rfl rfl (by exact fc_slice_99_124_3) (by first | omega | (simp <;> omega)) (by first | omega | (simp <;> omega))) ?_
  refine Wp (po_faddr_sl rfl (by omega) (by exact fc_field_124_1_1)) ?_
  refine Wp (po_load_sl rfl (List.getElem?_eq_getElem (by first | omega | (simp <;> omega))) (by exact fc_flat_35) (by rfl)) ?_
  refine Wc (co_fn rfl rfl) (clone_I (m.ps[i.toNat]'(by omega)).n.v (m.ps[i.toNat]'(by omega)).nodes (by rw [hpn]; omega)) ?_
  rintro v28 _ rfl
  try dsimp only [ca, na, GridS.l, GridS.p, MeshS.l, MeshS.lF, MeshS.p]
  refine rp 1 rfl ?_
  refine Sn (Aw (Rt ?_))
  refine at_ent (ent_put slP m.ps (i := i.toNat) (m.ps[i.toNat]'(by omega)) (by omega)) ?_
  rw [set_same hx, hpn]
  refine at_ret1 rfl (rv_tmp rfl) ⟨_, rfl, ?_⟩
  try dsimp only [ca, na, GridS.l, GridS.p, MeshS.l, MeshS.lF, MeshS.p]
  exact ent

theorem mesh_find (m : MeshS) (ok : MeshFr m) (c : Int) (hc : IsC m.g.w m.g.h c) : Spec PP 122 #[m.p, .int .i64 c] m.l
    (fun v M => (∃ r : Nat, v = .tuple #[ead m.pv (sectorN m.g.w m.g.h c).toNat 3 0, .int .i64 r, .bool (decide (c ∈ nodesN m.g.w m.g.h m.g.c (sectorN m.g.w m.g.h c)))] ∧
      (c ∈ nodesN m.g.w m.g.h m.g.c (sectorN m.g.w m.g.h c) → (nodesN m.g.w m.g.h m.g.c (sectorN m.g.w m.g.h c))[r]? = some c)) ∧ M = m.l) := by
  have hs := (sector_lt hc).1
  generalize hse : sectorN m.g.w m.g.h c = i at *
  have hil := ok.iss.1 hs
  have hx : m.ps[i.toNat]? = some (m.ps[i.toNat]'(by omega)) := List.getElem?_eq_getElem (by omega)
  have hp := ok.part i.toNat _ hx
  have hnl := nodes_len m.g.w m.g.h m.g.c i
  have hpn : (m.ps[i.toNat]'(by omega)).nodes = nodesN m.g.w m.g.h m.g.c i := by rw [hp.nodes, Int.toNat_of_nonneg hil.1]
  refine spec_of (Go.Proofs.Tryz.func122) rfl rfl rfl (by exact fc_enters_122) ?_
  intro g F
  try dsimp only [ca, na, GridS.l, GridS.p, MeshS.l, MeshS.lF, MeshS.p]
  refine Sq (Rg ?_)
  refine rp 3 rfl ?_
  refine Sn (Aw (Sq (Sq (Rg ?_))))
  refine rp 1 rfl ?_
  refine Wp (po_peq rfl rfl (by exact fc_ptr_63)) ?_
  refine Sn (Aw ?_)
  refine r_cond_f rfl (rfl) ?_
  refine Sk (Aw (Sq (Rg ?_)))
  refine rp 2 rfl ?_
  refine Wp (po_faddr rfl (by exact fc_field_101_0_0)) ?_
  refine Wp (po_load rfl (by exact fc_flat_27) (by rfl)) ?_
  refine Wc (co_fn rfl rfl) (grid_Size m.g) ?_
  rintro v20 _ ⟨rfl, rfl⟩
  try dsimp only [ca, na, GridS.l, GridS.p, MeshS.l, MeshS.lF, MeshS.p]
  refine rp 5 rfl ?_
  refine Sn (Aw (Sq (Rg ?_)))
  refine rp 3 rfl ?_
  refine Wc (co_fn rfl rfl) (where_Sector m.g.w m.g.h c) ?_
  rintro v26 _ ⟨rfl, rfl⟩
  try dsimp only [ca, na, GridS.l, GridS.p, MeshS.l, MeshS.lF, MeshS.p]
  rw [hse]
  refine rp 1 rfl ?_
  refine Sn (Aw (Sq (Sq (Rg ?_))))
  refine rp 1 rfl ?_
  refine Wp (po_lt rfl rfl) ?_
  refine Sn (Aw ?_)
  first | refine r_dec_f rfl (by omega) ?_ | refine r_nd_f rfl (by omega) ?_ | refine r_cond_f rfl (by omega) ?_
  refine Sk (Aw (Sq (Rg ?_)))
  refine rp 2 rfl ?_
  refine Wp (po_faddr rfl (by exact fc_field_101_1_1)) ?_
  refine Wp (po_load rfl (by exact fc_flat_99) (by rfl)) ?_
  refine rp 1 rfl ?_
  refine Wp (po_iaddr rfl rfl (by exact fc_slice_99_124_3) (by first | omega | (simp <;> omega)) (by first | omega | (simp <;> omega))) ?_
  refine rp 1 rfl ?_
  refine Sn (Aw (Sq ?_))
  refine wp_ent (ent_take slP m.ps hx) ?_
  refine Rg ?_
  refine rp 2 rfl ?_
  refine Wc (co_fn rfl rfl) (part_place m.pv m.ps i.toNat c (by omega) (by rw [hpn]; omega) (by rw [hpn]; exact nodes_rising hs)) ?_
  rintro v38 _ ⟨⟨r, rfl, hr⟩, rfl⟩
  try dsimp only [ca, na, GridS.l, GridS.p, MeshS.l, MeshS.lF, MeshS.p]
  refine rp 5 rfl ?_
  refine Sn (Aw (Sq ?_))
  refine wp_ent (ent_put slP m.ps (i := i.toNat) (m.ps[i.toNat]'(by omega)) (by omega)) ?_
  rw [set_same hx]
  rw [hpn] at hr
  rw [hpn]
  refine Rg ?_
  refine rp 6 rfl ?_
  refine Sn (Aw (Rt ?_))
  refine at_ret3 rfl (rv_tmp rfl) (rv_tmp rfl) (rv_tmp rfl) ⟨_, ⟨⟨r, rfl, hr⟩, rfl⟩, ?_⟩
  try dsimp only [ca, na, GridS.l, GridS.p, MeshS.l, MeshS.lF, MeshS.p]
  exact ent
theorem mesh_find0 (m : MeshS) (c : Int) (hc : ¬ IsC m.g.w m.g.h c) : Spec PP 122 #[m.p, .int .i64 c] m.l (fun v M => v = .tuple #[.pointer none, .int .i64 0, .bool false] ∧ M = m.l) := by
  refine spec_of (Go.Proofs.Tryz.func122) rfl rfl rfl (by exact fc_enters_122) ?_
  intro g F
  try dsimp only [ca, na, GridS.l, GridS.p, MeshS.l, MeshS.lF, MeshS.p]
  refine Sq (Rg ?_)
  refine rp 3 rfl ?_
  refine Sn (Aw (Sq (Sq (Rg ?_))))
  refine rp 1 rfl ?_
  refine Wp (po_peq rfl rfl (by exact fc_ptr_63)) ?_
  refine Sn (Aw ?_)
  refine r_cond_f rfl (rfl) ?_
  refine Sk (Aw (Sq (Rg ?_)))
  refine rp 2 rfl ?_
  refine Wp (po_faddr rfl (by exact fc_field_101_0_0)) ?_
  refine Wp (po_load rfl (by exact fc_flat_27) (by rfl)) ?_
  refine Wc (co_fn rfl rfl) (grid_Size m.g) ?_
  rintro v20 _ ⟨rfl, rfl⟩
  try dsimp only [ca, na, GridS.l, GridS.p, MeshS.l, MeshS.lF, MeshS.p]
  refine rp 5 rfl ?_
  refine Sn (Aw (Sq (Rg ?_)))
  refine rp 3 rfl ?_
  refine Wc (co_fn rfl rfl) (where_Sector m.g.w m.g.h c) ?_
  rintro v26 _ ⟨rfl, rfl⟩
  try dsimp only [ca, na, GridS.l, GridS.p, MeshS.l, MeshS.lF, MeshS.p]
  rw [sectorN, if_neg hc]
  refine rp 1 rfl ?_
  refine Sn (Aw (Sq (Sq (Rg ?_))))
  refine rp 1 rfl ?_
  refine Wp (po_lt rfl rfl) ?_
  refine Sn (Aw ?_)
  first | refine r_dec_t rfl (by decide) ?_ | refine r_nd_t rfl (by decide) ?_ | refine r_cond_t rfl (by decide) ?_
  refine Sq (Rg ?_)
  refine rp 3 rfl ?_
  refine Sn (Aw (Rt (Ar ?_)))
  refine at_ret3 rfl (rv_tmp rfl) (rv_tmp rfl) (rv_tmp rfl) ⟨_, ⟨rfl, rfl⟩, ?_⟩
  try dsimp only [ca, na, GridS.l, GridS.p, MeshS.l, MeshS.lF, MeshS.p]
  exact ent
end Hd
end
section
namespace Hd
set_option maxRecDepth 100000
open Go

/-- the edges that come to a node from its sector's nodes, of the first k of them -/
def InE (g : GridS) (b : Int) (d : List Int) (k : Nat) (e : Edg) : Prop := ∃ i : Nat, i < k ∧ (nodesN g.w g.h g.c (sectorN g.w g.h b))[i]? = some e.to ∧ e.to ≠ b ∧ e.cost = gAt d (localN g.w g.h e.to) ∧ e.cost ≠ 1099511627776
/-- those that come over the first k sides -/
def OverE (g : GridS) (b : Int) (k : Nat) (e : Edg) : Prop := ∃ s : Nat, s < k ∧ stepN g.w g.h b s = e.to ∧ IsC g.w g.h e.to ∧ sectorN g.w g.h e.to ≠ sectorN g.w g.h b ∧ e.to ∈ nodesN g.w g.h g.c (sectorN g.w g.h e.to) ∧ e.cost = costN g.c b
theorem InE_succ {g : GridS} {b : Int} {d : List Int} {k : Nat} {a : Int} (ha : (nodesN g.w g.h g.c (sectorN g.w g.h b))[k]? = some a) (e : Edg) :
    InE g b d (k + 1) e ↔ InE g b d k e ∨ (e.to = a ∧ a ≠ b ∧ e.cost = gAt d (localN g.w g.h a) ∧ e.cost ≠ 1099511627776) := by
  constructor
  · rintro ⟨i, h1, h2, h3, h4, h5⟩
    by_cases h : i = k
    · subst h; rw [ha] at h2; cases h2; exact .inr ⟨rfl, h3, h4, h5⟩
    · exact .inl ⟨i, by omega, h2, h3, h4, h5⟩
  · rintro (⟨i, h1, h2⟩ | ⟨rfl, h3, h4, h5⟩)
    · exact ⟨i, by omega, h2⟩
    · exact ⟨k, by omega, ha, h3, h4, h5⟩
theorem OverE_succ {g : GridS} {b : Int} {k : Nat} (e : Edg) : OverE g b (k + 1) e ↔ OverE g b k e ∨ (stepN g.w g.h b k = e.to ∧ IsC g.w g.h e.to ∧ sectorN g.w g.h e.to ≠ sectorN g.w g.h b ∧ e.to ∈ nodesN g.w g.h g.c (sectorN g.w g.h e.to) ∧ e.cost = costN g.c b) := by
  constructor
  · rintro ⟨i, h1, h2⟩
    by_cases h : i = k
    · subst h; exact .inr h2
    · exact .inl ⟨i, by omega, h2⟩
  · rintro (⟨i, h1, h2⟩ | h2)
    · exact ⟨i, by omega, h2⟩
    · exact ⟨k, by omega, h2⟩

theorem rising_inj {l : List Int} (h : Rising l) {i j : Nat} {a b : Int} (hi : l[i]? = some a) (hj : l[j]? = some b) (e : a = b) : i = j := by
  have h1 := lt_of_get hi
  have h2 := lt_of_get hj
  rw [List.getElem?_eq_getElem h1] at hi
  rw [List.getElem?_eq_getElem h2] at hj
  have e1 := Option.some.inj hi
  have e2 := Option.some.inj hj
  rcases Nat.lt_trichotomy i j with f | f | f
  · have := h i j h1 h2 f; omega
  · exact f
  · have := h j i h2 h1 f; omega
theorem gAt_nn {w h : Int} {C : List Int} {src : Int → Int → Prop} {d : List Int} (k : IsDist w h C src (dF d)) {c : Int} : 0 ≤ gAt d c := by
  by_cases e : c.toNat < d.length
  · rw [gAt_get e]; exact (dist_rng k _ (List.getElem_mem e)).1
  · rw [gAt_oob e]; exact Int.le_refl _
theorem between_val {dist d : List Int} {k : Nat} {c : Int} (hr : ∀ v ∈ dist, -1 ≤ v ∧ v ≤ 2147483647) (h : dist[k]? = some (if gAt d c = 1099511627776 then -1 else gAt d c)) (hd : 0 ≤ gAt d c) : (if gAt dist (k : Int) = -1 then 1099511627776 else gAt dist (k : Int)) = gAt d c := by
  have hl := lt_of_get h
  rw [List.getElem?_eq_getElem hl] at h
  have h := Option.some.inj h
  rw [gAt_nat hl, h]
  split <;> split <;> omega
theorem mesh_Into (m : MeshS) (ok : MeshFr m) (b : Int) (hc : IsC m.g.w m.g.h b) (hb : b ∈ nodesN m.g.w m.g.h m.g.c (sectorN m.g.w m.g.h b)) : Spec PP 99 #[m.p, .int .i64 b] m.l
    (fun v M => ∃ (d : List Int) (es : List Edg), M = m.l ++ [Sl eE v es] ∧ es.length ≤ 300 ∧ d.length = (tileN m.g (sectorN m.g.w m.g.h b)).c.length ∧
      IsDist (tileN m.g (sectorN m.g.w m.g.h b)).w (tileN m.g (sectorN m.g.w m.g.h b)).h (tileN m.g (sectorN m.g.w m.g.h b)).c (srcS (oneS (localN m.g.w m.g.h b))) (dF d) ∧
      ∀ e, e ∈ es ↔ InE m.g b d (nodesN m.g.w m.g.h m.g.c (sectorN m.g.w m.g.h b)).length e ∨ OverE m.g b 4 e) := by
  have hs := (sector_lt hc).1
  generalize hse : sectorN m.g.w m.g.h b = i at *
  have hil := ok.iss.1 hs
  have hx : m.ps[i.toNat]? = some (m.ps[i.toNat]'(by omega)) := List.getElem?_eq_getElem (by omega)
  have hp := ok.part i.toNat _ hx
  have hnl := nodes_len m.g.w m.g.h m.g.c i
  have hin : ((i.toNat : Nat) : Int) = i := Int.toNat_of_nonneg hil.1
  have hpn : (m.ps[i.toNat]'(by omega)).nodes = nodesN m.g.w m.g.h m.g.c i := by rw [hp.nodes, hin]
  have hplen := hp.len
  rw [hpn] at hplen
  have hnl2 : (m.ps[i.toNat]'(by omega)).nodes.length ≤ 256 := by rw [hpn]; exact hnl
  have hnr := nodes_rising (c := m.g.c) hs
  have hfi := mesh_find m ok b hc
  rw [hse] at hfi
  refine spec_of (Go.Proofs.Tryz.func99) rfl rfl rfl (by exact fc_enters_99) ?_
  intro g F
  try dsimp only [ca, na, GridS.l, GridS.p, MeshS.l, MeshS.lF, MeshS.p]
  refine Sq (Rg ?_)
  refine rp 1 rfl ?_
  refine Sn (Aw (Sq (Rg ?_)))
  refine rp 2 rfl ?_
  refine Wc (co_fn rfl rfl) (hfi) ?_
  rintro v22 _ ⟨⟨j, rfl, hj⟩, rfl⟩
  try dsimp only [ca, na, GridS.l, GridS.p, MeshS.l, MeshS.lF, MeshS.p]
  have hjn := hj hb
  rw [← hpn] at hjn
  obtain ⟨d, hdl, hd, hdc⟩ := hp.col j b hjn
  have hjl := lt_of_get hjn
  rw [hin] at hdl hd
  refine rp 7 rfl ?_
  refine Sn (Aw (Sq (Sq (Rg ?_))))
  refine rp 1 rfl ?_
  refine Wp (po_not rfl) ?_
  refine Sn (Aw ?_)
  refine r_cond_f rfl (by simp [hb]) ?_
  refine Sk (Aw (Sq ?_))
  refine wp_ent (ent_take slP m.ps hx) ?_
  refine Rg ?_
  refine rp 1 rfl ?_
  refine Wp (po_nil_sl (E := eP) (xs := m.ps) rfl (by omega)) ?_
  refine Wp (po_faddr_sl (E := eP) (xs := m.ps) rfl (by omega) (by exact fc_field_124_1_1)) ?_
  refine Wp (po_load_sl (E := eP) (xs := m.ps) (y := m.ps[i.toNat]'(by omega)) rfl hx (by exact fc_flat_35) (by rfl)) ?_
  refine Wp (po_len rfl (by exact fc_slice_35_3_1)) ?_
  refine Wp (po_add' rfl rfl (by omega) (by omega)) ?_
  refine Wx (xo_make0 eE ⟨0, 0⟩ rfl rfl (by exact fc_slice_73_76_2) (by exact fc_elem_76_2_16) (by exact fc_zero_76) rfl (by omega) (by omega) (by omega)) ?_
  rintro v34 _ rfl
  refine rp 1 rfl ?_
  refine Sn (Aw (Sq (Sq (Rg ?_))))
  refine rp 1 rfl ?_
  refine Wp (po_nil_sl (E := eP) (xs := m.ps) rfl (by omega)) ?_
  refine Wp (po_faddr_sl (E := eP) (xs := m.ps) rfl (by omega) (by exact fc_field_124_1_1)) ?_
  refine Wp (po_load_sl (E := eP) (xs := m.ps) (y := m.ps[i.toNat]'(by omega)) rfl hx (by exact fc_flat_35) (by rfl)) ?_
  refine Wp (po_len rfl (by exact fc_slice_35_3_1)) ?_
  refine rp 1 rfl ?_
  refine Sn (Aw (Bk ?_))
  refine r_loop (S := Nat × Value × List Edg) (fun ⟨k, ov, es⟩ => [(8, ov), (40, .int .i64 k)]) [(0, _), (1, _), (5, _), (6, _), (38, _), (39, _)] (fun ⟨k, ov, es⟩ => [Sl eE ov es, Sl eI (m.ps[i.toNat]'(by omega)).n.v (m.ps[i.toNat]'(by omega)).nodes, Sl eW (m.ps[i.toNat]'(by omega)).d.v (m.ps[i.toNat]'(by omega)).dist, All ((m.ps.eraseIdx i.toNat).map slP), Sl eP m.pv m.ps, Blk m.b 101 [.pointer (some ⟨m.g.b, 0, none⟩), m.pv, .int .i64 m.clean, .int .u64 m.count], Blk m.g.b 81 [.int .i64 m.g.w, .int .i64 m.g.h, m.g.cv, .int .i64 m.g.ep, m.g.vv], Sl eB m.g.cv m.g.c, Sl eL m.g.vv m.g.vs, F]) (fun ⟨k, ov, es⟩ => k ≤ (m.ps[i.toNat]'(by omega)).nodes.length ∧ es.length ≤ k ∧ ∀ e, e ∈ es ↔ InE m.g b d k e) (fun ⟨k, ov, es⟩ => (m.ps[i.toNat]'(by omega)).nodes.length - k) ((0, v34, [])) (And.intro rfl (And.intro rfl (And.intro rfl (And.intro rfl (And.intro rfl (And.intro rfl (trivial))))))) (And.intro rfl (And.intro rfl (trivial))) (⟨by omega, by simp, fun e => ⟨fun h => (by cases h), fun h => (by obtain ⟨i, h, _⟩ := h; omega)⟩⟩) ent ?_
  rintro ⟨k, ov, es⟩ ⟨hk, hel, hes⟩
  try dsimp only [ca, na, GridS.l, GridS.p, MeshS.l, MeshS.lF, MeshS.p]
  refine Sq (Rg ?_)
  refine Wp (po_lt rfl rfl) ?_
  refine Sn (Aw (Sq ?_))
  refine Rc rfl ?_ ?_
  ·skip
   intro hlt
   have hkl : k < (m.ps[i.toNat]'(by omega)).nodes.length := by omega
   obtain ⟨a, hae⟩ : ∃ a, (m.ps[i.toNat]'(by omega)).nodes[(k : Int).toNat]'(by omega) = a := ⟨_, rfl⟩
   have hza : (m.ps[i.toNat]'(by omega)).nodes[k]? = some a := by rw [← hae]; exact List.getElem?_eq_getElem hkl
   have hdk := hdc k _ hza
   have hrr := between_val hp.rng hdk (gAt_nn hd)
   refine Sk (Aw (Sq (Bk (Sq (Rg ?_)))))
   refine rp 1 rfl ?_
   refine Wp (po_iaddr rfl rfl (by exact fc_slice_35_3_1) (by first | omega | (simp <;> omega)) (by first | omega | (simp <;> omega))) ?_
   refine Wp (po_load_sl rfl (List.getElem?_eq_getElem (by first | omega | (simp <;> omega))) (by exact fc_flat_3) (by rfl)) ?_
   refine rp 2 rfl ?_
   refine Sn (Aw (Sq ?_))
   rw [hae]
   refine Rg ?_
   refine rp 3 rfl ?_
   refine Wc (co_fn rfl rfl) (part_between m.pv m.ps i.toNat k j (by omega) (by rw [hpn]; omega) hp.len hkl hjl hp.rng) ?_
   rintro v48 _ ⟨rfl, rfl⟩
   try dsimp only [ca, na, GridS.l, GridS.p, MeshS.l, MeshS.lF, MeshS.p]
   rw [hrr]
   have hab : (k : Int) ≠ j → a ≠ b := fun h1 h2 => h1 (by rw [hpn] at hza hjn; have := rising_inj hnr hza hjn h2; omega)
   have hba : k = j → a = b := fun h1 => by subst h1; rw [hza] at hjn; exact Option.some.inj hjn
   refine rp 1 rfl ?_
   refine Sn (Aw (Sq (Rg ?_)))
   refine rp 2 rfl ?_
   refine Wp (po_ne rfl rfl) ?_
   by_cases hkj : (k : Int) ≠ j
   ·skip
    refine ws (st_po (po_bt (po_move rfl) (decide_eq_true hkj)) rfl rfl rfl ?_)
    refine rp 1 rfl ?_
    refine Wp (po_ne rfl rfl) ?_
    refine rp 1 rfl ?_
    refine Sn (Aw ?_)
    refine Rc rfl ?_ ?_
    ·skip
     intro hne
     refine Rg ?_
     refine rp 3 rfl ?_
     refine Wp (po_build1 rfl (by exact fc_zero_76) (by exact fc_places_76_0_1) (by exact fc_info_76) rfl) ?_
     refine Wx (xo_bslice eE [⟨a, gAt d (localN m.g.w m.g.h a)⟩] rfl (by exact fc_slice_73_76_2) (by exact fc_elem_76_2_16) ⟨rfl, rfl, trivial⟩ rfl (by decide)) ?_
     rintro v60 _ rfl
     refine Wx (xo_append rfl rfl (by exact fc_slice_73_76_2) (by exact fc_slice_73_76_2) (by exact fc_elem_76_2_16) (by first | omega | (simp <;> omega)) (by first | omega | (simp <;> omega))) ?_
     rintro v61 _ rfl
     refine rp 1 rfl ?_
     refine Sn (Bn (Aw (Rg ?_)))
     refine Wp (po_add' rfl rfl (by omega) (by omega)) ?_
     refine rp 1 rfl ?_
     refine Sn ?_
     exact at_again ((k + 1, v61, es ++ [⟨a, gAt d (localN m.g.w m.g.h a)⟩])) (And.intro rfl (And.intro rfl (trivial))) (And.intro rfl (And.intro rfl (And.intro rfl (And.intro rfl (And.intro rfl (And.intro rfl (trivial))))))) (⟨by omega, by simp; omega, fun e => by
      rw [List.mem_append, List.mem_singleton, hes e, InE_succ (by rw [hse, ← hpn]; exact hza)]
      refine or_congr_right ⟨fun h => by subst h; exact ⟨rfl, hab hkj, rfl, hne⟩, fun h => ?_⟩
      obtain ⟨h1, -, h3, -⟩ := h
      cases e; simp_all⟩) (by omega) ent
    ·skip
     intro hne
     refine Sk (Bn (Aw (Rg ?_)))
     refine Wp (po_add' rfl rfl (by omega) (by omega)) ?_
     refine rp 1 rfl ?_
     refine Sn ?_
     exact at_again ((k + 1, ov, es)) (And.intro rfl (And.intro rfl (trivial))) (And.intro rfl (And.intro rfl (And.intro rfl (And.intro rfl (And.intro rfl (And.intro rfl (trivial))))))) (⟨by omega, by dsimp only; omega, fun e => by
      rw [hes e, InE_succ (by rw [hse, ← hpn]; exact hza)]
      exact ⟨.inl, fun h => h.elim id (fun h => absurd h.2.2.1 (fun h2 => h.2.2.2 (by rw [h2]; exact Classical.not_not.1 hne)))⟩⟩) (by omega) ent
   ·skip
    refine ws (st_po (po_bf (po_move rfl) (decide_eq_false hkj)) rfl rfl rfl ?_)
    refine rp 3 rfl ?_
    refine Sn (Aw ?_)
    refine r_cond_f rfl rfl ?_
    refine Sk (Bn (Aw (Rg ?_)))
    refine Wp (po_add' rfl rfl (by omega) (by omega)) ?_
    refine rp 1 rfl ?_
    refine Sn ?_
    exact at_again ((k + 1, ov, es)) (And.intro rfl (And.intro rfl (trivial))) (And.intro rfl (And.intro rfl (And.intro rfl (And.intro rfl (And.intro rfl (And.intro rfl (trivial))))))) (⟨by omega, by dsimp only; omega, fun e => by
      rw [hes e, InE_succ (by rw [hse, ← hpn]; exact hza)]
      exact ⟨.inl, fun h => h.elim id (fun h => absurd (hba (by omega)) h.2.1)⟩⟩) (by omega) ent
  ·skip
   intro hlt
   refine Ex' (Ax (Ax (Bh (Aw (Sq ?_)))))
   refine wp_ent (ent_put slP m.ps (i := i.toNat) (m.ps[i.toNat]'(by omega)) (by omega)) ?_
   rw [set_same hx]
   refine Rg ?_
   refine rp 2 rfl ?_
   refine Wp (po_faddr rfl (by exact fc_field_101_0_0)) ?_
   refine Wp (po_load rfl (by exact fc_flat_27) (by rfl)) ?_
   refine Wc (co_fn rfl rfl) (grid_Size m.g) ?_
   rintro v68 _ ⟨rfl, rfl⟩
   try dsimp only [ca, na, GridS.l, GridS.p, MeshS.l, MeshS.lF, MeshS.p]
   refine rp 5 rfl ?_
   refine Sn (Aw (Sq (Sq (Rg ?_))))
   refine rp 1 rfl ?_
   refine Sn (Aw (Bk ?_))
   refine r_loop (S := Nat × Value × List Edg) (fun ⟨s, ov, es⟩ => [(8, ov), (14, .int .i64 s)]) [(0, _), (1, _), (5, _), (12, _), (13, _)] (fun ⟨s, ov, es⟩ => Sl eE ov es :: m.lF F) (fun ⟨s, ov, es⟩ => s ≤ 4 ∧ es.length ≤ 256 + s ∧ ∀ e, e ∈ es ↔ InE m.g b d (nodesN m.g.w m.g.h m.g.c i).length e ∨ OverE m.g b s e) (fun ⟨s, ov, es⟩ => 4 - s) ((0, ov, es)) (And.intro rfl (And.intro rfl (And.intro rfl (And.intro rfl (And.intro rfl (trivial)))))) (And.intro rfl (And.intro rfl (trivial))) (⟨by omega, by omega, fun e => by rw [hes e, show k = (nodesN m.g.w m.g.h m.g.c i).length by rw [← hpn]; omega]; exact ⟨.inl, fun h => h.elim id (fun ⟨s, h, _⟩ => by omega)⟩⟩) ent ?_
   rintro ⟨s, ov, es⟩ ⟨hs4, hel2, hes2⟩
   try dsimp only [ca, na, GridS.l, GridS.p, MeshS.l, MeshS.lF, MeshS.p]
   refine Sq (Sq (Rg ?_))
   refine rp 1 rfl ?_
   refine Wp (po_le rfl rfl) ?_
   refine Sn (Aw ?_)
   refine Rc rfl ?_ ?_
   ·skip
    intro hs3
    by_cases hca : IsC m.g.w m.g.h (stepN m.g.w m.g.h b s)
    ·skip
     refine Sk (Aw (Sq (Bk (Sq (Rg ?_)))))
     refine rp 4 rfl ?_
     refine Wc (co_fn rfl rfl) (where_Step m.g.w m.g.h b s) ?_
     rintro v79 _ ⟨rfl, rfl⟩
     try dsimp only [ca, na, GridS.l, GridS.p, MeshS.l, MeshS.lF, MeshS.p]
     refine rp 1 rfl ?_
     refine Sn (Aw (Sq (Rg ?_)))
     refine rp 2 rfl ?_
     refine Wc (co_fn rfl rfl) (mesh_find m ok (stepN m.g.w m.g.h b s) hca) ?_
     rintro v83 _ ⟨⟨r, rfl, hr⟩, rfl⟩
     try dsimp only [ca, na, GridS.l, GridS.p, MeshS.l, MeshS.lF, MeshS.p]
     refine rp 7 rfl ?_
     refine Sn (Aw (Sq (Rg ?_)))
     refine rp 1 rfl ?_
     by_cases hmem : stepN m.g.w m.g.h b s ∈ nodesN m.g.w m.g.h m.g.c (sectorN m.g.w m.g.h (stepN m.g.w m.g.h b s))
     ·skip
      refine ws (st_po (po_bt (po_move rfl) (decide_eq_true hmem)) rfl rfl rfl ?_)
      have hsl := ok.iss.1 (sector_lt hca).1
      refine rp 2 rfl ?_
      refine Wp (po_pne_sl (E := eP) (xs := m.ps) rfl rfl (by omega) (by exact fc_ptrnz_161)) ?_
      refine rp 1 rfl ?_
      refine Sn (Aw ?_)
      refine Rc rfl ?_ ?_
      ·skip
       intro hq
       refine Rg ?_
       refine rp 4 rfl ?_
       refine Wp (po_faddr rfl (by exact fc_field_101_0_0)) ?_
       refine Wp (po_load rfl (by exact fc_flat_27) (by rfl)) ?_
       refine rp 1 rfl ?_
       refine Wc (co_fn rfl rfl) (grid_Cost m.g b ok.g.bytes) ?_
       rintro v100 _ ⟨rfl, rfl⟩
       try dsimp only [ca, na, GridS.l, GridS.p, MeshS.l, MeshS.lF, MeshS.p]
       refine Wp (po_build1 rfl (by exact fc_zero_76) (by exact fc_places_76_0_1) (by exact fc_info_76) rfl) ?_
       refine Wx (xo_bslice eE [⟨stepN m.g.w m.g.h b s, costN m.g.c b⟩] rfl (by exact fc_slice_73_76_2) (by exact fc_elem_76_2_16) ⟨rfl, rfl, trivial⟩ rfl (by decide)) ?_
       rintro v102 _ rfl
       refine Wx (xo_append rfl rfl (by exact fc_slice_73_76_2) (by exact fc_slice_73_76_2) (by exact fc_elem_76_2_16) (by first | omega | (simp <;> omega)) (by first | omega | (simp <;> omega))) ?_
       rintro v103 _ rfl
       refine rp 1 rfl ?_
       refine Sn (Bn (Aw (Rg ?_)))
       refine rp 1 rfl ?_
       refine Wp (po_add' rfl rfl (by omega) (by omega)) ?_
       refine rp 1 rfl ?_
       refine Sn ?_
       exact at_again ((s + 1, v103, es ++ [⟨stepN m.g.w m.g.h b s, costN m.g.c b⟩])) (And.intro rfl (And.intro rfl (trivial))) (And.intro rfl (And.intro rfl (And.intro rfl (And.intro rfl (And.intro rfl (trivial)))))) (⟨by omega, by simp; omega, fun e => by
      rw [List.mem_append, List.mem_singleton, hes2 e, OverE_succ, or_assoc]
      refine or_congr_right (or_congr_right ⟨fun h => by subst h; exact ⟨rfl, hca, by rw [hse]; intro h2; apply hq; rw [h2], hmem, rfl⟩, fun h => ?_⟩)
      obtain ⟨h1, -, -, -, h5⟩ := h
      cases e; simp_all⟩) (by omega) ent
      ·skip
       intro hq
       refine Sk (Bn (Aw (Rg ?_)))
       refine rp 1 rfl ?_
       refine Wp (po_add' rfl rfl (by omega) (by omega)) ?_
       refine rp 1 rfl ?_
       refine Sn ?_
       exact at_again ((s + 1, ov, es)) (And.intro rfl (And.intro rfl (trivial))) (And.intro rfl (And.intro rfl (And.intro rfl (And.intro rfl (And.intro rfl (trivial)))))) (⟨by omega, by dsimp only; omega, fun e => by
      rw [hes2 e, OverE_succ, ← or_assoc]
      exact ⟨.inl, fun h => h.elim id (fun h => absurd h.2.2.1 (by rw [← h.1, hse]; intro h2; apply h2; have := Classical.not_not.1 hq; omega))⟩⟩) (by omega) ent
     ·skip
      refine ws (st_po (po_bf (po_move rfl) (decide_eq_false hmem)) rfl rfl rfl ?_)
      refine rp 2 rfl ?_
      refine ws (st_no rfl rfl rfl ?_)
      refine rp 1 rfl ?_
      refine Sn (Aw ?_)
      refine r_cond_f rfl rfl ?_
      refine Sk (Bn (Aw (Rg ?_)))
      refine rp 1 rfl ?_
      refine Wp (po_add' rfl rfl (by omega) (by omega)) ?_
      refine rp 1 rfl ?_
      refine Sn ?_
      exact at_again ((s + 1, ov, es)) (And.intro rfl (And.intro rfl (trivial))) (And.intro rfl (And.intro rfl (And.intro rfl (And.intro rfl (And.intro rfl (trivial)))))) (⟨by omega, by dsimp only; omega, fun e => by
      rw [hes2 e, OverE_succ, ← or_assoc]
      exact ⟨.inl, fun h => h.elim id (fun h => absurd h.2.2.2.1 (by rw [← h.1]; exact hmem))⟩⟩) (by omega) ent
    ·skip
     refine Sk (Aw (Sq (Bk (Sq (Rg ?_)))))
     refine rp 4 rfl ?_
     refine Wc (co_fn rfl rfl) (where_Step m.g.w m.g.h b s) ?_
     rintro v79 _ ⟨rfl, rfl⟩
     try dsimp only [ca, na, GridS.l, GridS.p, MeshS.l, MeshS.lF, MeshS.p]
     refine rp 1 rfl ?_
     refine Sn (Aw (Sq (Rg ?_)))
     refine rp 2 rfl ?_
     refine Wc (co_fn rfl rfl) (mesh_find0 m (stepN m.g.w m.g.h b s) hca) ?_
     rintro v83 _ ⟨rfl, rfl⟩
     try dsimp only [ca, na, GridS.l, GridS.p, MeshS.l, MeshS.lF, MeshS.p]
     refine rp 7 rfl ?_
     refine Sn (Aw (Sq (Rg ?_)))
     refine rp 1 rfl ?_
     refine Wp (po_bf (po_move rfl) (rfl)) ?_
     refine rp 2 rfl ?_
     refine ws (st_no rfl rfl rfl ?_)
     refine rp 1 rfl ?_
     refine Sn (Aw ?_)
     refine r_cond_f rfl rfl ?_
     refine Sk (Bn (Aw (Rg ?_)))
     refine rp 1 rfl ?_
     refine Wp (po_add' rfl rfl (by omega) (by omega)) ?_
     refine rp 1 rfl ?_
     refine Sn ?_
     exact at_again ((s + 1, ov, es)) (And.intro rfl (And.intro rfl (trivial))) (And.intro rfl (And.intro rfl (And.intro rfl (And.intro rfl (And.intro rfl (trivial)))))) (⟨by omega, by dsimp only; omega, fun e => by
      rw [hes2 e, OverE_succ, ← or_assoc]
      exact ⟨.inl, fun h => h.elim id (fun h => absurd h.2.1 (by rw [← h.1]; exact hca))⟩⟩) (by omega) ent
   ·skip
    intro hs3
    refine Ex' (Ax (Ax (Bh (Aw (Sq (Rg ?_))))))
    refine rp 2 rfl ?_
    refine Sn (Aw (Rt ?_))
    refine at_ret1 rfl (rv_tmp rfl) ⟨_, ⟨d, es, rfl, by omega, hdl, hd, by rw [show (4 : Nat) = s by omega]; exact hes2⟩, ?_⟩
    try dsimp only [ca, na, GridS.l, GridS.p, MeshS.l, MeshS.lF, MeshS.p]
    exact ent
end Hd
end
section
namespace Hd
set_option maxRecDepth 100000
open Go

structure RouteS where
  b : Nat
  goal : Int
  ep : Int
  dv : Value
  dist : List Int
abbrev RouteS.l (r : RouteS) : List HP := [Blk r.b 84 [.int .i64 r.goal, .int .i64 r.ep, r.dv], Sl eW r.dv r.dist]
abbrev RouteS.p (r : RouteS) : Value := .pointer (some ⟨r.b, 0, none⟩)

theorem route_Goal (r : RouteS) : Spec PP 45 #[r.p] r.l (fun v M => v = .int .i64 r.goal ∧ M = r.l) := by
  refine spec_of (Go.Proofs.Tryz.func45) rfl rfl rfl (by exact fc_enters_45) ?_
  intro g F
  try dsimp only [ca, na, GridS.l, GridS.p, MeshS.l, MeshS.lF, MeshS.p, RouteS.l, RouteS.p]
  refine Sq (Rg ?_)
  refine rp 1 rfl ?_
  refine Sn (Aw (Sq (Sq (Rg ?_))))
  refine rp 1 rfl ?_
  refine Wp (po_peq rfl rfl (by exact fc_ptr_28)) ?_
  refine Sn (Aw ?_)
  refine r_cond_f rfl (rfl) ?_
  refine Sk (Aw (Sq (Rg ?_)))
  refine rp 2 rfl ?_
  refine Wp (po_faddr rfl (by exact fc_field_84_0_0)) ?_
  refine Wp (po_load rfl (by exact fc_flat_3) (by rfl)) ?_
  refine rp 1 rfl ?_
  refine Sn (Aw (Rt ?_))
  refine at_ret1 rfl (rv_tmp rfl) ⟨_, ⟨rfl, rfl⟩, ?_⟩
  try dsimp only [ca, na, GridS.l, GridS.p, MeshS.l, MeshS.lF, MeshS.p, RouteS.l, RouteS.p]
  exact ent
theorem route_Epoch (r : RouteS) : Spec PP 39 #[r.p] r.l (fun v M => v = .int .i64 r.ep ∧ M = r.l) := by
  refine spec_of (Go.Proofs.Tryz.func39) rfl rfl rfl (by exact fc_enters_39) ?_
  intro g F
  try dsimp only [ca, na, GridS.l, GridS.p, MeshS.l, MeshS.lF, MeshS.p, RouteS.l, RouteS.p]
  refine Sq (Rg ?_)
  refine rp 1 rfl ?_
  refine Sn (Aw (Sq (Sq (Rg ?_))))
  refine rp 1 rfl ?_
  refine Wp (po_peq rfl rfl (by exact fc_ptr_28)) ?_
  refine Sn (Aw ?_)
  refine r_cond_f rfl (rfl) ?_
  refine Sk (Aw (Sq (Rg ?_)))
  refine rp 2 rfl ?_
  refine Wp (po_faddr rfl (by exact fc_field_84_1_1)) ?_
  refine Wp (po_load rfl (by exact fc_flat_2) (by rfl)) ?_
  refine rp 1 rfl ?_
  refine Sn (Aw (Rt ?_))
  refine at_ret1 rfl (rv_tmp rfl) ⟨_, ⟨rfl, rfl⟩, ?_⟩
  try dsimp only [ca, na, GridS.l, GridS.p, MeshS.l, MeshS.lF, MeshS.p, RouteS.l, RouteS.p]
  exact ent
def atN (r : RouteS) (c : Int) : Int := if 0 ≤ c ∧ c < r.dist.length ∧ gAt r.dist c ≠ 2147483647 then gAt r.dist c else 1099511627776
theorem route_At (r : RouteS) (c : Int) (hr : ∀ x ∈ r.dist, 0 ≤ x ∧ x ≤ 2147483647) : Spec PP 20 #[r.p, .int .i64 c] r.l (fun v M => v = .int .i64 (atN r c) ∧ M = r.l) := by
  refine spec_of (Go.Proofs.Tryz.func20) rfl rfl rfl (by exact fc_enters_20) ?_
  intro g F
  try dsimp only [ca, na, GridS.l, GridS.p, MeshS.l, MeshS.lF, MeshS.p, RouteS.l, RouteS.p]
  refine Sq (Rg ?_)
  refine rp 1 rfl ?_
  refine Sn (Aw (Sq (Sq (Rg ?_))))
  refine rp 1 rfl ?_
  refine Wp (po_peq rfl rfl (by exact fc_ptr_28)) ?_
  refine Wp (po_bf (po_move rfl) (rfl)) ?_
  refine rp 1 rfl ?_
  refine Wp (po_lt rfl rfl) ?_
  refine rp 1 rfl ?_
  by_cases h1 : c < 0
  ·skip
   refine ws (st_po (po_bt (po_move rfl) (decide_eq_true h1)) rfl rfl rfl ?_)
   refine rp 18 rfl ?_
   refine Sn (Aw ?_)
   refine r_cond_t rfl rfl ?_
   refine Sq (Rg ?_)
   refine rp 1 rfl ?_
   refine Sn (Aw (Rt (Ar ?_)))
   refine at_ret1 rfl (rv_tmp rfl) ⟨_, ⟨by rw [atN, if_neg (by omega)], rfl⟩, ?_⟩
   try dsimp only [ca, na, GridS.l, GridS.p, MeshS.l, MeshS.lF, MeshS.p, RouteS.l, RouteS.p]
   exact ent
  ·skip
   refine ws (st_po (po_bf (po_move rfl) (decide_eq_false h1)) rfl rfl rfl ?_)
   refine rp 3 rfl ?_
   refine Wp (po_faddr rfl (by exact fc_field_84_2_2)) ?_
   refine Wp (po_load rfl (by exact fc_flat_82) (by rfl)) ?_
   refine Wp (po_len rfl (by exact fc_slice_82_21_1)) ?_
   refine Wp (po_ge rfl rfl) ?_
   refine rp 1 rfl ?_
   by_cases h2 : (r.dist.length : Int) ≤ c
   ·skip
    refine ws (st_po (po_bt (po_move rfl) (decide_eq_true h2)) rfl rfl rfl ?_)
    refine rp 9 rfl ?_
    refine Sn (Aw ?_)
    refine r_cond_t rfl rfl ?_
    refine Sq (Rg ?_)
    refine rp 1 rfl ?_
    refine Sn (Aw (Rt (Ar ?_)))
    refine at_ret1 rfl (rv_tmp rfl) ⟨_, ⟨by rw [atN, if_neg (by omega)], rfl⟩, ?_⟩
    try dsimp only [ca, na, GridS.l, GridS.p, MeshS.l, MeshS.lF, MeshS.p, RouteS.l, RouteS.p]
    exact ent
   ·skip
    refine ws (st_po (po_bf (po_move rfl) (decide_eq_false h2)) rfl rfl rfl ?_)
    have hg : gAt r.dist c = r.dist[c.toNat]'(by omega) := gAt_get (by omega)
    have hb := hr _ (List.getElem_mem (show c.toNat < r.dist.length by omega))
    refine rp 2 rfl ?_
    refine Wp (po_faddr rfl (by exact fc_field_84_2_2)) ?_
    refine Wp (po_load rfl (by exact fc_flat_82) (by rfl)) ?_
    refine rp 1 rfl ?_
    refine Wp (po_iaddr rfl rfl (by exact fc_slice_82_21_1) (by first | omega | (simp <;> omega)) (by first | omega | (simp <;> omega))) ?_
    refine Wp (po_load_sl rfl (List.getElem?_eq_getElem (by first | omega | (simp <;> omega))) (by exact fc_flat_21) (by rfl)) ?_
    refine Wp (po_eq rfl rfl) ?_
    refine rp 1 rfl ?_
    refine Sn (Aw ?_)
    refine Rc rfl ?_ ?_
    ·skip
     intro h3
     refine Sq (Rg ?_)
     refine rp 1 rfl ?_
     refine Sn (Aw (Rt (Ar ?_)))
     refine at_ret1 rfl (rv_tmp rfl) ⟨_, ⟨by rw [atN, if_neg (by rw [hg]; exact fun h => h.2.2 h3)], rfl⟩, ?_⟩
     try dsimp only [ca, na, GridS.l, GridS.p, MeshS.l, MeshS.lF, MeshS.p, RouteS.l, RouteS.p]
     exact ent
    ·skip
     intro h3
     refine Sk (Aw (Sq (Rg ?_)))
     refine rp 2 rfl ?_
     refine Wp (po_faddr rfl (by exact fc_field_84_2_2)) ?_
     refine Wp (po_load rfl (by exact fc_flat_82) (by rfl)) ?_
     refine rp 1 rfl ?_
     refine Wp (po_iaddr rfl rfl (by exact fc_slice_82_21_1) (by first | omega | (simp <;> omega)) (by first | omega | (simp <;> omega))) ?_
     refine Wp (po_load_sl rfl (List.getElem?_eq_getElem (by first | omega | (simp <;> omega))) (by exact fc_flat_21) (by rfl)) ?_
     refine Wp (po_conv_w rfl (by exact fc_int_21_i32) (by exact fc_int_3_i64) (wrap_i64 _ (by omega) (by omega))) ?_
     refine rp 1 rfl ?_
     refine Sn (Aw (Rt ?_))
     refine at_ret1 rfl (rv_tmp rfl) ⟨_, ⟨by rw [atN, if_pos (by rw [hg]; exact ⟨by omega, by omega, h3⟩), hg], rfl⟩, ?_⟩
     try dsimp only [ca, na, GridS.l, GridS.p, MeshS.l, MeshS.lF, MeshS.p, RouteS.l, RouteS.p]
     exact ent
theorem route_near (r : RouteS) (c k : Int) (hc : 0 ≤ c ∧ c < r.dist.length) (hr : ∀ x ∈ r.dist, 0 ≤ x ∧ x ≤ 2147483647) (hk : 0 ≤ k) : Spec PP 96 #[r.p, .int .i64 c, .int .i64 k] r.l
    (fun v M => v = .bool (decide (k < gAt r.dist c)) ∧ M = ({ r with dist := if k < gAt r.dist c then r.dist.set c.toNat k else r.dist } : RouteS).l) := by
  have hg : gAt r.dist c = r.dist[c.toNat]'(by omega) := gAt_get (by omega)
  have hb := hr _ (List.getElem_mem (show c.toNat < r.dist.length by omega))
  refine spec_of (Go.Proofs.Tryz.func96) rfl rfl rfl (by exact fc_enters_96) ?_
  intro g F
  try dsimp only [ca, na, GridS.l, GridS.p, MeshS.l, MeshS.lF, MeshS.p, RouteS.l, RouteS.p]
  refine Sq (Rg ?_)
  refine rp 1 rfl ?_
  refine Sn (Aw (Sq (Sq (Rg ?_))))
  refine rp 3 rfl ?_
  refine Wp (po_faddr rfl (by exact fc_field_84_2_2)) ?_
  refine Wp (po_load rfl (by exact fc_flat_82) (by rfl)) ?_
  refine rp 1 rfl ?_
  refine Wp (po_iaddr rfl rfl (by exact fc_slice_82_21_1) (by first | omega | (simp <;> omega)) (by first | omega | (simp <;> omega))) ?_
  refine Wp (po_load_sl rfl (List.getElem?_eq_getElem (by first | omega | (simp <;> omega))) (by exact fc_flat_21) (by rfl)) ?_
  refine Wp (po_conv_w rfl (by exact fc_int_21_i32) (by exact fc_int_3_i64) (wrap_i64 _ (by omega) (by omega))) ?_
  refine Wp (po_ge rfl rfl) ?_
  refine Sn (Aw ?_)
  refine Rc rfl ?_ ?_
  ·skip
   intro h1
   refine Sq (Rg ?_)
   refine rp 1 rfl ?_
   refine Sn (Aw (Rt (Ar ?_)))
   refine at_ret1 rfl (rv_tmp rfl) ⟨_, ⟨by rw [decide_eq_false (by omega)], by rw [if_neg (by omega)]⟩, ?_⟩
   try dsimp only [ca, na, GridS.l, GridS.p, MeshS.l, MeshS.lF, MeshS.p, RouteS.l, RouteS.p]
   exact ent
  ·skip
   intro h1
   refine Sk (Aw (Sq (Rg ?_)))
   refine rp 2 rfl ?_
   refine Wp (po_faddr rfl (by exact fc_field_84_2_2)) ?_
   refine Wp (po_load rfl (by exact fc_flat_82) (by rfl)) ?_
   refine rp 2 rfl ?_
   refine Wp (po_conv_w rfl (by exact fc_int_3_i64) (by exact fc_int_21_i32) (wrap_i32 _ (by omega) (by omega))) ?_
   refine Wp (po_iaddr rfl rfl (by exact fc_slice_82_21_1) (by first | omega | (simp <;> omega)) (by first | omega | (simp <;> omega))) ?_
   refine Ws (so_store_sl rfl rfl (List.getElem?_eq_getElem (by first | omega | (simp <;> omega))) (by exact fc_flat_21) (by decide) (by rfl) (by rfl)) ?_
   refine Sn (Aw (Sq (Rg ?_)))
   refine rp 1 rfl ?_
   refine Sn (Aw (Rt ?_))
   refine at_ret1 rfl (rv_tmp rfl) ⟨_, ⟨by rw [decide_eq_true (by omega)], by rw [if_pos (by omega)]⟩, ?_⟩
   try dsimp only [ca, na, GridS.l, GridS.p, MeshS.l, MeshS.lF, MeshS.p, RouteS.l, RouteS.p]
   exact ent

structure FinderS where
  b : Nat
  m : MeshS
  count : Int
abbrev FinderS.p (f : FinderS) : Value := .pointer (some ⟨f.b, 0, none⟩)
/-- a finder, with or without a route -/
abbrev FinderS.l (f : FinderS) (kept : Value) : List HP := Blk f.b 98 [f.m.p, f.m.g.p, kept, .int .u64 f.count] :: f.m.l
theorem route_New (m : MeshS) : Spec PP 29 #[m.p, m.g.p] m.l (fun v M => ∃ f : FinderS, v = f.p ∧ M = f.l (.pointer none) ∧ f.m = m ∧ f.count = 0) := by
  refine spec_of (Go.Proofs.Tryz.func29) rfl rfl rfl (by exact fc_enters_29) ?_
  intro g F
  try dsimp only [ca, na, GridS.l, GridS.p, MeshS.l, MeshS.lF, MeshS.p, RouteS.l, RouteS.p, FinderS.l, FinderS.p]
  refine Sq (Rg ?_)
  refine rp 1 rfl ?_
  refine Sn (Aw (Sq (Sq (Rg ?_))))
  refine rp 1 rfl ?_
  refine Wp (po_peq rfl rfl (by exact fc_ptr_63)) ?_
  refine Wp (po_bf (po_move rfl) (rfl)) ?_
  refine rp 1 rfl ?_
  refine Wp (po_peq rfl rfl (by exact fc_ptr_27)) ?_
  refine rp 1 rfl ?_
  refine Sn (Aw ?_)
  refine r_cond_f rfl (rfl) ?_
  refine Sk (Aw (Sq (Rg ?_)))
  refine rp 2 rfl ?_
  refine Wp (po_build1 rfl (by exact fc_zero_98) (by exact fc_places_98_0_1) (by exact fc_info_98) rfl) ?_
  refine Wx (xo_box rfl rfl) ?_
  rintro _ _ ⟨b14, rfl, rfl⟩
  refine rp 1 rfl ?_
  refine Sn (Aw (Rt ?_))
  refine at_ret1 rfl (rv_tmp rfl) ⟨_, ⟨⟨_, m, 0⟩, rfl, rfl, rfl, rfl⟩, ?_⟩
  try dsimp only [ca, na, GridS.l, GridS.p, MeshS.l, MeshS.lF, MeshS.p, RouteS.l, RouteS.p, FinderS.l, FinderS.p]
  exact ent
end Hd
end
section
namespace Hd
/-- a step on the map within a sector is a step on the tile -/
theorem step_in {w h c k : Int} (hc : IsC w h c) (hk : 0 ≤ k ∧ k < 4) :
    (0 ≤ stepN w h c k ∧ sectorN w h (stepN w h c k) = sectorN w h c) ↔ 0 ≤ stepN (sizeN w h (sectorN w h c)).1 (sizeN w h (sectorN w h c)).2 (localN w h c) k := by
  have hz := size_of hc
  have hlx := local_xy hc
  have hll := local_lt hc
  have hxy := isc_xy hc
  have hsp := size_pos (sector_lt hc).1
  have hsl := size_le w h (sectorN w h c)
  have hlc : IsC (sizeN w h (sectorN w h c)).1 (sizeN w h (sectorN w h c)).2 (localN w h c) := ⟨⟨by omega, by omega⟩, hll⟩
  have h1 := step_ok hc hk.1 (by omega)
  have h2 := step_ok hlc hk.1 (by omega)
  rw [h2.1, hlx.1, hlx.2, hz.1, hz.2]
  have hd : (dx k = 0 ∨ dx k = 1 ∨ dx k = -1) ∧ (dy k = 0 ∨ dy k = 1 ∨ dy k = -1) := by
    have : k = 0 ∨ k = 1 ∨ k = 2 ∨ k = 3 := by omega
    rcases this with e | e | e | e <;> subst e <;> simp [dx, dy]
  constructor
  · rintro ⟨e1, e2⟩
    obtain ⟨m1, m2, m3⟩ := h1.2 e1
    have e3 := (sec_eq m1 hc).1 e2
    rw [m2, m3] at e3
    have := h1.1.1 e1
    omega
  · intro e
    have e1 := h1.1.2 (by omega)
    obtain ⟨m1, m2, m3⟩ := h1.2 e1
    refine ⟨e1, ?_⟩
    rw [sec_eq m1 hc, m2, m3]
    omega
theorem step_local {w h c k : Int} (hc : IsC w h c) (hk : 0 ≤ k ∧ k < 4) (e1 : 0 ≤ stepN w h c k) (e2 : sectorN w h (stepN w h c k) = sectorN w h c) :
    stepN (sizeN w h (sectorN w h c)).1 (sizeN w h (sectorN w h c)).2 (localN w h c) k = localN w h (stepN w h c k) := by
  have hl := (step_in hc hk).1 ⟨e1, e2⟩
  have hlx := local_xy hc
  have hll := local_lt hc
  have hxy := isc_xy hc
  have hz := size_of hc
  have hsp := size_pos (sector_lt hc).1
  have hsl := size_le w h (sectorN w h c)
  have hlc : IsC (sizeN w h (sectorN w h c)).1 (sizeN w h (sectorN w h c)).2 (localN w h c) := ⟨⟨by omega, by omega⟩, hll⟩
  have h1 := step_ok hc hk.1 (by omega)
  have h2 := step_ok hlc hk.1 (by omega)
  obtain ⟨m1, m2, m3⟩ := h1.2 e1
  obtain ⟨n1, n2, n3⟩ := h2.2 hl
  have e3 := (sec_eq m1 hc).1 e2
  have hr := h2.1.1 hl
  have a1 := isc_xy n1
  rw [n2, n3, hlx.1, hlx.2] at a1
  have hlm : localN w h (stepN w h c k) = (stepN w h c k) / w % 16 * (sizeN w h (sectorN w h c)).1 + (stepN w h c k) % w % 16 := by
    rw [localN, if_pos m1, e2]
  rw [hlm, a1.2.2, m2, m3]
  rw [m2, m3] at e3
  rw [hlx.1, hlx.2] at hr
  rw [hz.1, hz.2] at hr
  have q1 : c / w % 16 + dy k = (c / w + dy k) % 16 := by omega
  have q2 : c % w % 16 + dx k = (c % w + dx k) % 16 := by omega
  rw [q1, q2]
end Hd
end
section
namespace Hd
/-! ## distances among some of the cells -/
def Adj (w h c m : Int) : Prop := ∃ s : Int, (0 ≤ s ∧ s < 4) ∧ stepN w h c s = m
structure IsD (w h : Int) (C : List Int) (In : Int → Prop) (src : Int → Int → Prop) (d : Int → Int) : Prop where
  out : ∀ c, ¬ In c → d c = INF
  rng : ∀ c, d c = INF ∨ (0 ≤ d c ∧ d c < INF)
  low : ∀ c k, src c k → d c ≤ k
  rel : ∀ c m, In c → In m → Adj w h c m → d m < INF → d c ≤ d m + gAt C m
  tight : ∀ c, d c = INF ∨ src c (d c) ∨ ∃ m, In m ∧ Adj w h c m ∧ d m < INF ∧ d c = d m + gAt C m
variable {w h : Int} {C : List Int} {In : Int → Prop} {src : Int → Int → Prop} {d d' : Int → Int}
theorem IsD.mem (k : IsD w h C In src d) {c : Int} (h : d c < INF) : In c := by
  apply Classical.byContradiction
  intro hn
  have := k.out c hn
  omega
theorem isD_le (hC : ∀ c, In c → 1 ≤ gAt C c) (h1 : IsD w h C In src d) (h2 : IsD w h C In src d') : ∀ (n : Nat) (c : Int), d c < INF → d c ≤ n → d' c ≤ d c := by
  intro n
  induction n with
  | zero =>
    intro c hlt hle
    rcases h1.tight c with e | e | ⟨m, hm, ha, hml, e⟩
    · omega
    · exact h2.low c _ e
    · have := h1.rng m
      have := hC m hm
      omega
  | succ n ih =>
    intro c hlt hle
    rcases h1.tight c with e | e | ⟨m, hm, ha, hml, e⟩
    · omega
    · exact h2.low c _ e
    · have := hC m hm
      have := ih m hml (by omega)
      have := h2.rel c m (h1.mem hlt) hm ha (by omega)
      omega
theorem isD_uniq (hC : ∀ c, In c → 1 ≤ gAt C c) (h1 : IsD w h C In src d) (h2 : IsD w h C In src d') : ∀ c, d c = d' c := by
  intro c
  rcases h1.rng c with e | e
  · rcases h2.rng c with f | f
    · omega
    · have := isD_le hC h2 h1 (d' c).toNat c (by omega) (by omega); omega
  · have a := isD_le hC h1 h2 (d c).toNat c (by omega) (by omega)
    have b := isD_le hC h2 h1 (d' c).toNat c (by omega) (by omega)
    omega
/-- an open cell of a sector -/
def InS (w h : Int) (C : List Int) (i c : Int) : Prop := Opn C c ∧ IsC w h c ∧ sectorN w h c = i
instance (w h : Int) (C : List Int) (i c : Int) : Decidable (InS w h C i c) := by unfold InS; infer_instance
def onMap (w h : Int) (C : List Int) (i : Int) (dT : Int → Int) (c : Int) : Int := if InS w h C i c then dT (localN w h c) else INF
theorem opn_isC {g : GridS} (ok : GridOk g) {c : Int} (ho : Opn g.c c) : IsC g.w g.h c := ⟨ok.may, ho.1, by have := ho.2.1; have := ok.len; omega⟩
theorem local_opn {g : GridS} (ok : GridOk g) {i c : Int} (k : InS g.w g.h g.c i c) : Opn (tileN g i).c (localN g.w g.h c) := by
  obtain ⟨ho, hc, rfl⟩ := k
  have hl := local_lt hc
  have hs := (sector_lt hc).1
  refine ⟨hl.1, by rw [tile_len ok hs]; exact hl.2, ?_⟩
  rw [tile_at ok hs hl.1 hl.2, global_local hc]; exact ho.2.2
theorem local_cost {g : GridS} (ok : GridOk g) {i c : Int} (k : InS g.w g.h g.c i c) : gAt (tileN g i).c (localN g.w g.h c) = gAt g.c c := by
  obtain ⟨ho, hc, rfl⟩ := k
  have hl := local_lt hc
  rw [tile_at ok (sector_lt hc).1 hl.1 hl.2, global_local hc]
theorem opn_local {g : GridS} (ok : GridOk g) {i l : Int} (hi : IsS g.w g.h i) (k : Opn (tileN g i).c l) : InS g.w g.h g.c i (globalN g.w g.h i l) ∧ localN g.w g.h (globalN g.w g.h i l) = l := by
  have hl : l < (sizeN g.w g.h i).1 * (sizeN g.w g.h i).2 := by rw [← tile_len ok hi]; exact k.2.1
  have hc := (global_is hi k.1 hl).1
  refine ⟨⟨⟨hc.2.1, by have := ok.len; have := hc.2.2; omega, ?_⟩, hc, sector_global hi k.1 hl⟩, local_global hi k.1 hl⟩
  rw [← tile_at ok hi k.1 hl]; exact k.2.2
/-- from a tile to the map -/
theorem tile_map {g : GridS} (ok : GridOk g) {i : Int} (hi : IsS g.w g.h i) {src : Int → Int → Prop} {dT : Int → Int} (k : IsDist (tileN g i).w (tileN g i).h (tileN g i).c src dT) :
    IsD g.w g.h g.c (InS g.w g.h g.c i) (fun c x => InS g.w g.h g.c i c ∧ src (localN g.w g.h c) x) (onMap g.w g.h g.c i dT) := by
  have hv : ∀ c, InS g.w g.h g.c i c → onMap g.w g.h g.c i dT c = dT (localN g.w g.h c) := fun c hc => by unfold onMap; rw [if_pos hc]
  have hn : ∀ c, ¬ InS g.w g.h g.c i c → onMap g.w g.h g.c i dT c = INF := fun c hc => by unfold onMap; rw [if_neg hc]
  refine ⟨hn, fun c => ?_, fun c x hx => ?_, fun c m hc hm ha hl => ?_, fun c => ?_⟩
  · by_cases hc : InS g.w g.h g.c i c
    · rw [hv c hc]; exact k.rng _
    · exact .inl (hn c hc)
  · rw [hv c hx.1]; exact k.low _ _ hx.2
  · rw [hv m hm] at hl ⊢
    rw [hv c hc, ← local_cost ok hm]
    obtain ⟨s, hs, e⟩ := ha
    refine k.rel _ _ (local_opn ok hc) ⟨local_opn ok hm, s, hs, ?_⟩ hl
    have h1 : 0 ≤ stepN g.w g.h c s := by rw [e]; exact hm.2.1.2.1
    have h2 : sectorN g.w g.h (stepN g.w g.h c s) = sectorN g.w g.h c := by rw [e, hm.2.2, hc.2.2]
    have := step_local hc.2.1 hs h1 h2
    rw [hc.2.2, e] at this
    exact this
  · by_cases hc : InS g.w g.h g.c i c
    · rw [hv c hc]
      rcases k.tight (localN g.w g.h c) with e | e | ⟨m, ⟨hmo, s, hs, e1⟩, hml, e2⟩
      · exact .inl e
      · exact .inr (.inl ⟨hc, e⟩)
      · obtain ⟨hm, hml2⟩ := opn_local ok hi hmo
        refine .inr (.inr ⟨globalN g.w g.h i m, hm, ⟨s, hs, ?_⟩, by rw [hv _ hm, hml2]; exact hml, by rw [hv _ hm, hml2, ← local_cost ok hm, hml2]; exact e2⟩)
        have h3 := (step_in hc.2.1 hs).2 (by rw [hc.2.2]; show 0 ≤ stepN (tileN g i).w (tileN g i).h _ s; rw [e1]; exact hmo.1)
        have h4 := step_local hc.2.1 hs h3.1 h3.2
        have h5 : stepN (sizeN g.w g.h i).1 (sizeN g.w g.h i).2 (localN g.w g.h c) s = m := e1
        rw [hc.2.2, h5] at h4
        have h6 : IsC g.w g.h (stepN g.w g.h c s) := (opp hs h3.1).2 |> fun _ => ((step_ok hc.2.1 hs.1 (by omega)).2 h3.1).1
        have h7 := global_local h6
        rw [h3.2, hc.2.2, ← h4] at h7
        exact h7.symm
    · exact .inl (hn c hc)
/-! ## the graph of the sectors' border cells -/
abbrev FAR : Int := 2147483647
structure Bd (w h : Int) (C : List Int) (t : Int) (Nd : Int → Prop) (S : Int → Int → Int) (R : Int → Int) : Prop where
  rng : ∀ a, 0 ≤ R a ∧ R a ≤ FAR
  ini : Opn C t → ∀ a, Nd a → sectorN w h a = sectorN w h t → S t a < INF → R a ≤ S t a
  inn : ∀ b a, Nd b → Nd a → R b < FAR → sectorN w h a = sectorN w h b → a ≠ b → S b a < INF → R a ≤ R b + S b a
  ovr : ∀ b a, Nd b → Nd a → R b < FAR → sectorN w h a ≠ sectorN w h b → Adj w h b a → R a ≤ R b + gAt C b
  tight : ∀ a, R a = FAR ∨ Nd a ∧ ((Opn C t ∧ sectorN w h a = sectorN w h t ∧ S t a < INF ∧ R a = S t a) ∨
    ∃ b, Nd b ∧ R b < FAR ∧ ((sectorN w h a = sectorN w h b ∧ a ≠ b ∧ S b a < INF ∧ R a = R b + S b a) ∨ (sectorN w h a ≠ sectorN w h b ∧ Adj w h b a ∧ R a = R b + gAt C b)))
/-- a border cell -/
def Nd (w h : Int) (C : List Int) (c : Int) : Prop := (Opn C c ∧ IsC w h c) ∧ ∃ s : Int, (0 ≤ s ∧ s < 4) ∧ 0 ≤ stepN w h c s ∧ sectorN w h (stepN w h c s) ≠ sectorN w h c
def OpC (w h : Int) (C : List Int) (c : Int) : Prop := Opn C c ∧ IsC w h c
theorem adj_symm {w h c m : Int} (hm : 0 ≤ m) (k : Adj w h c m) : Adj w h m c := by
  obtain ⟨s, hs, e⟩ := k
  refine ⟨(s + 2) % 4, by omega, ?_⟩
  have := opp hs (show 0 ≤ stepN w h c s by omega)
  rw [e] at this; exact this.1
section
variable {t : Int} {S : Int → Int → Int} {R D : Int → Int}
def srcT (C : List Int) (t c k : Int) : Prop := Opn C t ∧ c = t ∧ k = 0
theorem sd_self {i y : Int} {f : Int → Int} (hy : InS w h C i y) (k : IsD w h C (InS w h C i) (fun c x => c = y ∧ x = 0) f) : f y = 0 := by
  have h1 := k.low y 0 ⟨rfl, rfl⟩
  have h2 := k.rng y
  have hI : INF = 1099511627776 := rfl
  omega
theorem in_full {i y : Int} {f : Int → Int} (hC : ∀ c, OpC w h C c → 1 ≤ gAt C c) (hD : IsD w h C (OpC w h C) (srcT C t) D) (hDb : ∀ c, D c < INF → D c < FAR) (k : IsD w h C (InS w h C i) (fun c x => c = y ∧ x = 0) f) (hy : D y < INF) :
    ∀ (n : Nat) (c : Int), f c < FAR → f c ≤ n → D c ≤ f c + D y := by
  intro n
  induction n using Nat.strongRecOn with
  | _ n ih =>
    intro c hlt hle
    have hI : INF = 1099511627776 := rfl
    have hF : FAR = 2147483647 := rfl
    rcases k.tight c with e | ⟨e1, e2⟩ | ⟨m, hm, ha, hml, e⟩
    · omega
    · rw [e1] at e2 ⊢; omega
    · have hcm := hC m ⟨hm.1, hm.2.1⟩
      have hfm := k.rng m
      have h1 := ih (f m).toNat (by omega) m (by omega) (by omega)
      have hc := k.mem (show f c < INF by omega)
      have hyb := hDb y hy
      have := hD.rel c m ⟨hc.1, hc.2.1⟩ ⟨hm.1, hm.2.1⟩ ha (by omega)
      omega
theorem exits (hC : ∀ c, OpC w h C c → 1 ≤ gAt C c) (hD : IsD w h C (OpC w h C) (srcT C t) D) (hS : ∀ y, Nd w h C y ∨ (y = t ∧ OpC w h C t) → IsD w h C (InS w h C (sectorN w h y)) (fun c x => c = y ∧ x = 0) (S y)) :
    ∀ (n : Nat) (c : Int), D c < INF → D c ≤ n → (OpC w h C t ∧ sectorN w h c = sectorN w h t ∧ S t c ≤ D c) ∨
      ∃ b b', Nd w h C b ∧ Nd w h C b' ∧ sectorN w h c = sectorN w h b ∧ S b c + D b ≤ D c ∧ D b' < INF ∧ D b = D b' + gAt C b' ∧ Adj w h b b' ∧ sectorN w h b' ≠ sectorN w h b := by
  intro n
  induction n using Nat.strongRecOn with
  | _ n ih =>
    intro c hlt hle
    have hc := hD.mem hlt
    have hr := hD.rng c
    rcases hD.tight c with e | ⟨e0, e1, e2⟩ | ⟨m, hm, ha, hml, e⟩
    · omega
    · refine .inl ⟨by rw [← e1]; exact hc, by rw [e1], ?_⟩
      rw [e1] at hc e2 ⊢
      have := sd_self ⟨hc.1, hc.2, rfl⟩ (hS t (.inr ⟨rfl, hc⟩)); omega
    · have hcm := hC m hm
      have hrm := hD.rng m
      by_cases hs : sectorN w h m = sectorN w h c
      · rcases ih (D m).toNat (by omega) m hml (by omega) with ⟨h1, h2, h3⟩ | ⟨b, b', h1, h1', h2, h3, h4, h5, h6, h7⟩
        · refine .inl ⟨h1, by rw [← hs]; exact h2, ?_⟩
          have := (hS t (.inr ⟨rfl, h1⟩)).rel c m ⟨hc.1, hc.2, by rw [← hs]; exact h2⟩ ⟨hm.1, hm.2, h2⟩ ha (by omega)
          omega
        · refine .inr ⟨b, b', h1, h1', by rw [← hs]; exact h2, ?_, h4, h5, h6, h7⟩
          have hb := hD.rng b
          have hb' := hD.rng b'
          have := (hS b (.inl h1)).rel c m ⟨hc.1, hc.2, by rw [← hs]; exact h2⟩ ⟨hm.1, hm.2, h2⟩ ha (by omega)
          omega
      · obtain ⟨s, hs4, hse⟩ := id ha
        have hn : Nd w h C c := ⟨hc, s, hs4, by rw [hse]; exact hm.2.2.1, by rw [hse]; exact hs⟩
        obtain ⟨s', hs4', hse'⟩ := adj_symm hm.2.2.1 ha
        have hn' : Nd w h C m := ⟨hm, s', hs4', by rw [hse']; exact hc.2.2.1, by rw [hse']; exact fun x => hs x.symm⟩
        refine .inr ⟨c, m, hn, hn', rfl, ?_, hml, e, ha, hs⟩
        have := sd_self ⟨hc.1, hc.2, rfl⟩ (hS c (.inl hn)); omega
theorem bd_le (hC : ∀ c, OpC w h C c → 1 ≤ gAt C c) (hD : IsD w h C (OpC w h C) (srcT C t) D) (hDb : ∀ c, D c < INF → D c < FAR) (hS : ∀ y, Nd w h C y ∨ (y = t ∧ OpC w h C t) → IsD w h C (InS w h C (sectorN w h y)) (fun c x => c = y ∧ x = 0) (S y))
    (hB : Bd w h C t (Nd w h C) S R) : ∀ (n : Nat) (a : Int), Nd w h C a → D a < INF → D a ≤ n → R a ≤ D a := by
  intro n
  induction n using Nat.strongRecOn with
  | _ n ih =>
    intro a ha hlt hle
    rcases exits hC hD hS n a hlt hle with ⟨h1, h2, h3⟩ | ⟨b, b', h1, h1', h2, h3, h4, h5, h6, h7⟩
    · have := hB.ini h1.1 a ha h2 (by omega); omega
    · have hcb := hC b' h1'.1
      have hrb := hD.rng b
      have hrb' := hD.rng b'
      have hSr := (hS b (.inl h1)).rng a
      have hDa := hDb a hlt
      have hF : FAR = 2147483647 := rfl
      have hI : INF = 1099511627776 := rfl
      have i1 := ih (D b').toNat (by omega) b' h1' h4 (by omega)
      have i2 := hB.ovr b' b h1' h1 (by omega) (fun x => h7 x.symm) (adj_symm h1'.1.2.2.1 h6)
      by_cases e : a = b
      · subst e; omega
      · have i3 := hB.inn b a h1 ha (by omega) h2 e (by omega)
        omega
theorem bd_ge (hC : ∀ c, OpC w h C c → 1 ≤ gAt C c) (hD : IsD w h C (OpC w h C) (srcT C t) D) (hDb : ∀ c, D c < INF → D c < FAR) (hS : ∀ y, Nd w h C y ∨ (y = t ∧ OpC w h C t) → IsD w h C (InS w h C (sectorN w h y)) (fun c x => c = y ∧ x = 0) (S y)) (ht : Opn C t → OpC w h C t)
    (hB : Bd w h C t (Nd w h C) S R) : ∀ (n : Nat) (a : Int), R a < FAR → R a ≤ n → D a ≤ R a := by
  intro n
  induction n using Nat.strongRecOn with
  | _ n ih =>
    intro a hlt hle
    have hF : FAR = 2147483647 := rfl
    have hI : INF = 1099511627776 := rfl
    have hra := hB.rng a
    rcases hB.tight a with e | ⟨ha, ⟨h1, h2, h3, h4⟩ | ⟨b, hb, hbl, ⟨h1, h2, h3, h4⟩ | ⟨h1, h2, h4⟩⟩⟩
    · omega
    · have hd := hD.low t 0 ⟨h1, rfl, rfl⟩
      have hdr := hD.rng t
      have := in_full hC hD hDb (hS t (.inr ⟨rfl, ht h1⟩)) (by omega) (S t a).toNat a (by omega) (by omega)
      omega
    · have hSr := (hS b (.inl hb)).rng a
      have hS1 : 1 ≤ S b a := by
        rcases (hS b (.inl hb)).tight a with e | ⟨e, _⟩ | ⟨m, hm, hma, hml, e⟩
        · omega
        · exact absurd e h2
        · have := hC m ⟨hm.1, hm.2.1⟩
          have := (hS b (.inl hb)).rng m
          omega
      have hrb := hB.rng b
      have i1 := ih (R b).toNat (by omega) b hbl (by omega)
      have := in_full hC hD hDb (hS b (.inl hb)) (by omega) (S b a).toNat a (by omega) (by omega)
      omega
    · have hcb := hC b hb.1
      have hrb := hB.rng b
      have i1 := ih (R b).toNat (by omega) b hbl (by omega)
      have := hD.rel a b ha.1 hb.1 (adj_symm ha.1.2.2.1 h2) (by omega)
      omega
/-- what the border's graph tells is what the whole map tells -/
theorem bd_eq (hC : ∀ c, OpC w h C c → 1 ≤ gAt C c) (hD : IsD w h C (OpC w h C) (srcT C t) D) (hDb : ∀ c, D c < INF → D c < FAR) (hS : ∀ y, Nd w h C y ∨ (y = t ∧ OpC w h C t) → IsD w h C (InS w h C (sectorN w h y)) (fun c x => c = y ∧ x = 0) (S y)) (ht : Opn C t → OpC w h C t)
    (hB : Bd w h C t (Nd w h C) S R) {a : Int} (ha : Nd w h C a) : (if R a = FAR then INF else R a) = D a := by
  have hF : FAR = 2147483647 := rfl
  have hI : INF = 1099511627776 := rfl
  have hr := hB.rng a
  by_cases e : R a = FAR
  · rw [if_pos e]
    rcases hD.rng a with e2 | e2
    · omega
    · have := bd_le hC hD hDb hS hB (D a).toNat a ha e2.2 (by omega)
      have := hDb a e2.2
      omega
  · rw [if_neg e]
    have i1 := bd_ge hC hD hDb hS ht hB (R a).toNat a (by omega) (by omega)
    have := hD.rng a
    have := bd_le hC hD hDb hS hB (D a).toNat a ha (by omega) (by omega)
    omega
end
end Hd
end
section
namespace Hd
/-! ## within a sector: what waits, what is known -/
def Why (w h : Int) (C : List Int) (t : Int) (kv : List (Int × Int)) (c k : Int) : Prop := (c = t ∧ k = 0) ∨ ∃ m km, kv.lookup m = some km ∧ Adj w h c m ∧ k = km + gAt C m
def unk (kv : List (Int × Int)) (n : Nat) : Nat := (List.range n).countP fun (i : Nat) => (kv.lookup (i : Int)).isNone
theorem lookup_snoc {kv : List (Int × Int)} {c d x : Int} (hn : kv.lookup c = none) : (kv ++ [(c, d)]).lookup x = if x = c then some d else kv.lookup x := by
  rw [List.lookup_append]
  by_cases e : x = c
  · subst e; simp [hn]
  · have : (x == c) = false := by simpa using e
    simp [List.lookup, this, e]
theorem countP_one (p q : Nat → Bool) (m : Nat) (hq : q m = true) (hp : p m = false) (hpq : ∀ x, x ≠ m → p x = q x) : ∀ n, m < n → (List.range n).countP p + 1 = (List.range n).countP q := by
  intro n
  induction n with
  | zero => intro h; omega
  | succ n ih =>
    intro h
    rw [List.range_succ, List.countP_append, List.countP_append]
    by_cases e : m = n
    · subst e
      have : (List.range m).countP p = (List.range m).countP q := by
        apply List.countP_congr
        intro x hx
        have := List.mem_range.1 hx
        rw [hpq x (by omega)]
      rw [this]
      simp [hq, hp]
    · have := ih (by omega)
      have h2 : [n].countP p = [n].countP q := by simp [hpq n (fun x => e x.symm)]
      rw [h2]; omega
theorem unk_snoc {kv : List (Int × Int)} {c d : Int} {n : Nat} (hn : kv.lookup c = none) (h0 : 0 ≤ c) (h1 : c < n) : unk (kv ++ [(c, d)]) n + 1 = unk kv n := by
  unfold unk
  refine countP_one _ _ c.toNat ?_ ?_ ?_ n (by omega)
  · rw [Int.toNat_of_nonneg h0, hn]; rfl
  · rw [Int.toNat_of_nonneg h0, lookup_snoc hn, if_pos rfl]; rfl
  · intro x hx
    rw [lookup_snoc hn, if_neg (by omega)]
theorem unk_le (kv : List (Int × Int)) (n : Nat) : unk kv n ≤ n := Nat.le_trans List.countP_le_length (by simp)

structure Dij (w h : Int) (C : List Int) (t : Int) (kv : List (Int × Int)) (hp : List Ent) (top cur : Int) (ks : Int) : Prop where
  kn : ∀ c k, kv.lookup c = some k → InS w h C (sectorN w h t) c ∧ 0 ≤ k ∧ k ≤ top ∧ Why w h C t kv c k
  wt : ∀ e, e ∈ hp → InS w h C (sectorN w h t) e.item ∧ top ≤ e.key ∧ e.key ≤ 255 * kv.length ∧ Why w h C t kv e.item e.key
  tp : 0 ≤ top ∧ top ≤ 255 * kv.length
  st : kv.lookup t = some 0 ∨ (⟨0, t⟩ ∈ hp ∧ kv.lookup t = none)
  rel : ∀ m km s n, kv.lookup m = some km → (0 ≤ s ∧ s < 4) → stepN w h m s = n → InS w h C (sectorN w h t) n → (m ≠ cur ∨ s < ks) → (∃ k, kv.lookup n = some k ∧ k ≤ km + gAt C m) ∨ ⟨km + gAt C m, n⟩ ∈ hp
  cnt : kv.length + unk kv C.length = C.length
  hl : (hp.length : Int) + 4 * (unk kv C.length : Int) + 4 - ks ≤ 4 * C.length + 1
section
variable {w h : Int} {C : List Int} {t : Int} {kv : List (Int × Int)} {hp : List Ent} {top cur ks : Int}
theorem Dij.start (ht : InS w h C (sectorN w h t) t) : Dij w h C t [] [⟨0, t⟩] 0 t 4 := by
  refine ⟨fun c k hk => (by cases hk), fun e he => ?_, ⟨by omega, by simp⟩, .inr ⟨by simp, rfl⟩, fun m km s n hk => (by cases hk), ?_, ?_⟩
  · rw [List.mem_singleton] at he
    subst he
    exact ⟨ht, Int.le_refl _, by simp, .inl ⟨rfl, rfl⟩⟩
  · unfold unk; simp
  · have := unk_le ([] : List (Int × Int)) C.length
    simp only [List.length_singleton]; omega
theorem Dij.old {e : Ent} {hp' : List Ent} (s : Dij w h C t kv hp top cur 4) (hpm : hp.Perm (e :: hp')) (hk : (kv.lookup e.item).isSome = true) : Dij w h C t kv hp' top cur 4 := by
  have hm : ∀ x, x ∈ hp ↔ x = e ∨ x ∈ hp' := fun x => by rw [hpm.mem_iff, List.mem_cons]
  obtain ⟨k, hk⟩ := Option.isSome_iff_exists.1 hk
  have hke := (s.kn _ _ hk).2.2.1
  have he := s.wt e ((hm e).2 (.inl rfl))
  refine ⟨s.kn, fun x hx => s.wt x ((hm x).2 (.inr hx)), s.tp, ?_, fun m km sd n h1 h2 h3 h4 h5 => ?_, s.cnt, ?_⟩
  · rcases s.st with a | ⟨a, a2⟩
    · exact .inl a
    · rcases (hm _).1 a with b | b
      · rw [← b] at hk; rw [hk] at a2; cases a2
      · exact .inr ⟨b, a2⟩
  · rcases s.rel m km sd n h1 h2 h3 h4 h5 with a | a
    · exact .inl a
    · rcases (hm _).1 a with b | b
      · left; rw [← b] at hk he; exact ⟨k, hk, by have := he.2.1; dsimp only at this; omega⟩
      · exact .inr b
  · have := s.hl
    have := hpm.length_eq
    simp only [List.length_cons] at this; omega
theorem Dij.new {e : Ent} {hp' : List Ent} (s : Dij w h C t kv hp top cur 4) (hpm : hp.Perm (e :: hp')) (hmin : ∀ x, x ∈ hp → e.key ≤ x.key) (hk : kv.lookup e.item = none) (hlen : (C.length : Int) = w * h) : Dij w h C t (kv ++ [(e.item, e.key)]) hp' e.key e.item 0 := by
  have hm : ∀ x, x ∈ hp ↔ x = e ∨ x ∈ hp' := fun x => by rw [hpm.mem_iff, List.mem_cons]
  have he := s.wt e ((hm e).2 (.inl rfl))
  have hlk : ∀ x, (kv ++ [(e.item, e.key)]).lookup x = if x = e.item then some e.key else kv.lookup x := fun x => lookup_snoc hk
  have hln : (kv ++ [(e.item, e.key)]).length = kv.length + 1 := by simp
  have hold : ∀ c k, kv.lookup c = some k → (kv ++ [(e.item, e.key)]).lookup c = some k := fun c k h1 => by
    rw [hlk, if_neg (fun x => by rw [x, hk] at h1; cases h1)]; exact h1
  have hwhy : ∀ c k, Why w h C t kv c k → Why w h C t (kv ++ [(e.item, e.key)]) c k := fun c k hw => by
    rcases hw with a | ⟨m, km, h1, h2, h3⟩
    · exact .inl a
    · exact .inr ⟨m, km, hold m km h1, h2, h3⟩
  have hu := unk_snoc (d := e.key) hk he.1.1.1 he.1.1.2.1
  have hs := s.tp
  refine ⟨fun c k h1 => ?_, fun x hx => ?_, ⟨by omega, by rw [hln]; omega⟩, ?_, fun m km sd n h1 h2 h3 h4 h5 => ?_, by rw [hln]; have := s.cnt; omega, ?_⟩
  · rw [hlk] at h1
    by_cases ec : c = e.item
    · rw [if_pos ec] at h1
      cases h1; subst ec
      exact ⟨he.1, by omega, Int.le_refl _, hwhy _ _ he.2.2.2⟩
    · rw [if_neg ec] at h1
      have := s.kn c k h1
      exact ⟨this.1, this.2.1, by omega, hwhy _ _ this.2.2.2⟩
  · have h1 := s.wt x ((hm x).2 (.inr hx))
    exact ⟨h1.1, hmin x ((hm x).2 (.inr hx)), by rw [hln]; omega, hwhy _ _ h1.2.2.2⟩
  · rcases s.st with a | ⟨a, a2⟩
    · exact .inl (hold _ _ a)
    · by_cases et : t = e.item
      · left
        have h0 := hmin _ a
        dsimp only at h0
        rw [hlk, if_pos et, show e.key = 0 by omega]
      · rcases (hm _).1 a with b | b
        · exact absurd (congrArg Ent.item b) et
        · exact .inr ⟨b, by rw [hlk, if_neg et]; exact a2⟩
  · rcases h5 with h5 | h5
    · rw [hlk, if_neg h5] at h1
      by_cases hmc : m ≠ cur ∨ sd < 4
      · rcases s.rel m km sd n h1 h2 h3 h4 hmc with ⟨k, a, b⟩ | a
        · exact .inl ⟨k, hold _ _ a, b⟩
        · rcases (hm _).1 a with b | b
          · left
            rw [← b]
            dsimp only
            rw [lookup_snoc (by rw [← b] at hk; exact hk), if_pos rfl]
            exact ⟨_, rfl, Int.le_refl _⟩
          · exact .inr b
      · omega
    · omega
  · have := s.hl
    have := hpm.length_eq
    simp only [List.length_cons] at this; omega
theorem Dij.skip {top : Int} (s : Dij w h C t kv hp top cur ks) (hn : ¬ InS w h C (sectorN w h t) (stepN w h cur ks)) : Dij w h C t kv hp top cur (ks + 1) := by
  refine ⟨s.kn, s.wt, s.tp, s.st, fun m km sd n h1 h2 h3 h4 h5 => ?_, s.cnt, by have := s.hl; omega⟩
  by_cases e : m = cur ∧ sd = ks
  · obtain ⟨rfl, rfl⟩ := e
    rw [h3] at hn; exact absurd h4 hn
  · exact s.rel m km sd n h1 h2 h3 h4 (by omega)
theorem Dij.push {hp' : List Ent} {km : Int} (hC : ∀ c, Opn C c → 1 ≤ gAt C c ∧ gAt C c ≤ 255) (s : Dij w h C t kv hp top cur ks) (hk0 : 0 ≤ ks ∧ ks < 4) (hk : kv.lookup cur = some km) (htop : top = km) (hb : km ≤ 255 * ((kv.length : Int) - 1)) (hn : InS w h C (sectorN w h t) (stepN w h cur ks)) (hpm : hp'.Perm (⟨km + gAt C cur, stepN w h cur ks⟩ :: hp)) : Dij w h C t kv hp' top cur (ks + 1) := by
  have hm : ∀ x, x ∈ hp' ↔ x = ⟨km + gAt C cur, stepN w h cur ks⟩ ∨ x ∈ hp := fun x => by rw [hpm.mem_iff, List.mem_cons]
  have hcur := s.kn _ _ hk
  have hcc := hC cur hcur.1.1
  refine ⟨s.kn, fun x hx => ?_, s.tp, ?_, fun m km' sd n h1 h2 h3 h4 h5 => ?_, s.cnt, ?_⟩
  · rcases (hm x).1 hx with e | e
    · subst e
      refine ⟨hn, by dsimp only; omega, by dsimp only; omega, .inr ⟨cur, km, hk, adj_symm hn.1.1 ⟨ks, hk0, rfl⟩, rfl⟩⟩
    · exact s.wt x e
  · rcases s.st with a | ⟨a, a2⟩
    · exact .inl a
    · exact .inr ⟨(hm _).2 (.inr a), a2⟩
  · by_cases e : m = cur ∧ sd = ks
    · obtain ⟨rfl, rfl⟩ := e
      rw [hk] at h1; cases h1
      right; rw [← h3]; exact (hm _).2 (.inl rfl)
    · rcases s.rel m km' sd n h1 h2 h3 h4 (by omega) with a | a
      · exact .inl a
      · exact .inr ((hm _).2 (.inr a))
  · have := s.hl
    have := hpm.length_eq
    simp only [List.length_cons] at this; omega
/-- what is known at the end -/
def kvF (kv : List (Int × Int)) (c : Int) : Int := (kv.lookup c).getD INF
theorem Dij.done (s : Dij w h C t kv [] top cur 4) (hC : ∀ c, Opn C c → 1 ≤ gAt C c) (hb : C.length ≤ 2^30) : IsD w h C (InS w h C (sectorN w h t)) (fun c k => c = t ∧ k = 0) (kvF kv) ∧ ∀ c k, kv.lookup c = some k → 0 ≤ k ∧ k < INF ∧ k ≤ 255 * C.length := by
  have hI : INF = 1099511627776 := rfl
  have hv : ∀ c k, kv.lookup c = some k → kvF kv c = k := fun c k e => by unfold kvF; rw [e]; rfl
  have hc := s.cnt
  have htp := s.tp
  have hr : ∀ c k, kv.lookup c = some k → 0 ≤ k ∧ k < INF ∧ k ≤ 255 * C.length := fun c k e => by have := s.kn c k e; omega
  refine ⟨⟨fun c hn => ?_, fun c => ?_, fun c k hs => ?_, fun c m hci hmi ⟨sd, hsd, e⟩ hl => ?_, fun c => ?_⟩, hr⟩
  · cases e : kv.lookup c with
    | none => unfold kvF; rw [e]; rfl
    | some k => exact absurd (s.kn c k e).1 hn
  · cases e : kv.lookup c with
    | none => left; unfold kvF; rw [e]; rfl
    | some k => right; rw [hv c k e]; exact ⟨(hr c k e).1, (hr c k e).2.1⟩
  · obtain ⟨rfl, rfl⟩ := hs
    rcases s.st with a | ⟨a, _⟩
    · rw [hv _ _ a]; exact Int.le_refl _
    · cases a
  · cases em : kv.lookup m with
    | none => rw [kvF, em] at hl; exact absurd hl (by simp)
    | some km =>
      rw [hv m km em]
      have hcm := adj_symm hmi.1.1 ⟨sd, hsd, e⟩
      obtain ⟨sd', hsd', e'⟩ := hcm
      rcases s.rel m km sd' c em hsd' e' hci (by omega) with ⟨k, a, b⟩ | a
      · rw [hv c k a]; exact b
      · cases a
  · cases e : kv.lookup c with
    | none => left; unfold kvF; rw [e]; rfl
    | some k =>
      rw [hv c k e]
      rcases (s.kn c k e).2.2.2 with a | ⟨m, km, h1, h2, h3⟩
      · exact .inr (.inl a)
      · exact .inr (.inr ⟨m, (s.kn m km h1).1, h2, by rw [hv m km h1]; exact (hr m km h1).2.1, by rw [hv m km h1]; exact h3⟩)
end
end Hd
end
section
namespace Hd
set_option maxRecDepth 100000
open Go

abbrev FinderS.lF (f : FinderS) (kept : Value) (F : HP) : List HP := Blk f.b 98 [f.m.p, f.m.g.p, kept, .int .u64 f.count] :: f.m.lF F
theorem cost_opn {g : GridS} (ok : GridOk g) {c : Int} (hc : IsC g.w g.h c) : costN g.c c = gAt g.c c := by
  have := ok.len
  unfold costN
  rw [if_pos ⟨hc.2.1, by have := hc.2.2; omega⟩]
theorem ins_iff {g : GridS} (ok : GridOk g) {t n : Int} : (0 ≤ n ∧ IsC g.w g.h n) ∧ sectorN g.w g.h n = sectorN g.w g.h t ∧ costN g.c n ≠ 255 ↔ InS g.w g.h g.c (sectorN g.w g.h t) n := by
  have := ok.len
  constructor
  · rintro ⟨⟨h1, h2⟩, h3, h4⟩
    rw [cost_opn ok h2] at h4
    exact ⟨⟨h1, by omega, h4⟩, h2, h3⟩
  · rintro ⟨h1, h2, h3⟩
    exact ⟨⟨h1.1, h2⟩, h3, by rw [cost_opn ok h2]; exact h1.2.2⟩
/-- what is popped next -/
structure Nxt (g : GridS) (t : Int) (o : Bool) (e : Ent) (l : List Ent) (kv : List (Int × Int)) (top cur : Int) : Prop where
  hp : HpL l
  ok : o = true → ∃ hp, Dij g.w g.h g.c t kv hp top cur 4 ∧ hp.Perm (e :: l) ∧ ∀ x, x ∈ hp → e.key ≤ x.key
  no : o = false → l = [] ∧ Dij g.w g.h g.c t kv [] top cur 4
def muW (kv : List (Int × Int)) (n : Nat) (o : Bool) (l : List Ent) : Nat := 5 * unk kv n + l.length + (if o = true then 1 else 0)
theorem muW_t (kv : List (Int × Int)) (n : Nat) {o : Bool} (l : List Ent) (h : o = true) : muW kv n o l = 5 * unk kv n + l.length + 1 := by unfold muW; rw [if_pos h]
theorem muW_f (kv : List (Int × Int)) (n : Nat) {o : Bool} (l : List Ent) (h : o = false) : muW kv n o l = 5 * unk kv n + l.length := by subst h; rfl
theorem leE_key {a b : Ent} (h : leE a b) : a.key ≤ b.key := by unfold leE lessE at h; omega
theorem route_within (f : FinderS) (kept : Value) (ok : GridOk f.m.g) (t : Int) (ht : IsC f.m.g.w f.m.g.h t) : Spec PP 94 #[f.p, .int .i64 t] (f.l kept)
    (fun v M => ∃ r kv, v = .map (some r) ∧ M = f.l kept ++ [MpH r kv] ∧ (¬ Opn f.m.g.c t → kv = []) ∧ (Opn f.m.g.c t → IsD f.m.g.w f.m.g.h f.m.g.c (InS f.m.g.w f.m.g.h f.m.g.c (sectorN f.m.g.w f.m.g.h t)) (fun c k => c = t ∧ k = 0) (kvF kv)) ∧ ∀ c k, kv.lookup c = some k → 0 ≤ k ∧ k < INF ∧ k ≤ 255 * f.m.g.c.length) := by
  have hcl := ok.len
  have hb := may_mul ok.may
  have hC : ∀ c, Opn f.m.g.c c → 1 ≤ gAt f.m.g.c c ∧ gAt f.m.g.c c ≤ 255 := fun c hc => by
    have hl : c.toNat < f.m.g.c.length := by have := hc.1; have := hc.2.1; omega
    rw [gAt_get hl]; exact ok.bt _ (List.getElem_mem hl)
  refine spec_of (Go.Proofs.Tryz.func94) rfl rfl rfl (by exact fc_enters_94) ?_
  intro g F
  try dsimp only [ca, na, GridS.l, GridS.p, MeshS.l, MeshS.lF, MeshS.p, FinderS.l, FinderS.p, heapL, heapP, heapLF, FinderS.lF]
  refine Sq (Rg ?_)
  refine rp 1 rfl ?_
  refine Sn (Aw (Sq (Rg ?_)))
  refine rp 2 rfl ?_
  refine Wp (po_faddr rfl (by exact fc_field_98_1_1)) ?_
  refine Wp (po_load rfl (by exact fc_flat_27) (by rfl)) ?_
  refine Wc (co_fn rfl rfl) (grid_Size f.m.g) ?_
  rintro v21 _ ⟨rfl, rfl⟩
  try dsimp only [ca, na, GridS.l, GridS.p, MeshS.l, MeshS.lF, MeshS.p, FinderS.l, FinderS.p, heapL, heapP, heapLF, FinderS.lF]
  refine rp 5 rfl ?_
  refine Sn (Aw (Sq (Rg ?_)))
  refine Wx (xo_makemap) ?_
  rintro _ _ ⟨r24, rfl, rfl⟩
  refine rp 1 rfl ?_
  refine Sn (Aw (Sq (Sq (Rg ?_))))
  refine rp 2 rfl ?_
  refine Wp (po_faddr rfl (by exact fc_field_98_1_1)) ?_
  refine Wp (po_load rfl (by exact fc_flat_27) (by rfl)) ?_
  refine rp 1 rfl ?_
  refine Wc (co_fn rfl rfl) (grid_Cost f.m.g t ok.bytes) ?_
  rintro v30 _ ⟨rfl, rfl⟩
  try dsimp only [ca, na, GridS.l, GridS.p, MeshS.l, MeshS.lF, MeshS.p, FinderS.l, FinderS.p, heapL, heapP, heapLF, FinderS.lF]
  refine Wp (po_eq rfl rfl) ?_
  refine Sn (Aw ?_)
  refine Rc rfl ?_ ?_
  ·skip
   intro hw
   refine Sq (Rg ?_)
   refine rp 2 rfl ?_
   refine Sn (Aw (Rt (Ar ?_)))
   refine at_ret1 rfl (rv_tmp rfl) ⟨_, ⟨_, [], rfl, rfl, fun _ => rfl, fun ho => absurd hw (by rw [cost_opn ok ht]; exact ho.2.2), fun c k h => (by cases h)⟩, ?_⟩
   try dsimp only [ca, na, GridS.l, GridS.p, MeshS.l, MeshS.lF, MeshS.p, FinderS.l, FinderS.p, heapL, heapP, heapLF, FinderS.lF]
   exact ent
  ·skip
   intro hw
   have hto : Opn f.m.g.c t := ⟨ht.2.1, by have := ht.2.2; omega, by rw [← cost_opn ok ht]; exact hw⟩
   have hti : InS f.m.g.w f.m.g.h f.m.g.c (sectorN f.m.g.w f.m.g.h t) t := ⟨hto, ht, rfl⟩
   refine Sk (Aw (Sq (Rg ?_)))
   refine Wc (co_fn rfl rfl) (heap_New) ?_
   rintro v33 _ ⟨hb0, rfl, rfl⟩
   try dsimp only [ca, na, GridS.l, GridS.p, MeshS.l, MeshS.lF, MeshS.p, FinderS.l, FinderS.p, heapL, heapP, heapLF, FinderS.lF]
   refine rp 1 rfl ?_
   refine Sn (Aw (Sq (Rg ?_)))
   refine rp 2 rfl ?_
   refine Wc (co_fn rfl rfl) (heap_Push hb0 (.slice none 0 0) [] 0 t (by simp) (fun j _ h => by simp at h)) ?_
   rintro v36 _ ⟨v1, l1, rfl, rfl, hp1, hl1⟩
   try dsimp only [ca, na, GridS.l, GridS.p, MeshS.l, MeshS.lF, MeshS.p, FinderS.l, FinderS.p, heapL, heapP, heapLF, FinderS.lF]
   have hl1l := hl1.length_eq
   simp only [List.length_cons, List.length_nil] at hl1l
   refine Sn (Aw (Sq (Sq (Rg ?_))))
   refine rp 1 rfl ?_
   refine Wc (co_fn rfl rfl) (heap_Pop hb0 v1 l1 (by omega) (by omega) hp1) ?_
   rintro v39 _ ⟨e1, v2, l2, rfl, rfl, hpm, hp2, hmin⟩
   try dsimp only [ca, na, GridS.l, GridS.p, MeshS.l, MeshS.lF, MeshS.p, FinderS.l, FinderS.p, heapL, heapP, heapLF, FinderS.lF]
   refine rp 7 rfl ?_
   refine Sn (Aw (Bk ?_))
   refine r_loop (S := Bool × Ent × Value × List Ent × List (Int × Int) × Int × Int) (fun ⟨o, e, v, l, kv, top, cur⟩ => [(9, .int .i64 e.key), (10, .int .i64 e.item), (11, .bool o)]) [(0, _), (1, _), (5, _), (6, _), (7, _), (8, _)] (fun ⟨o, e, v, l, kv, top, cur⟩ => Blk hb0 157 [v] :: Sl eH v l :: MpH r24 kv :: f.lF kept F) (fun ⟨o, e, v, l, kv, top, cur⟩ => Nxt f.m.g t o e l kv top cur) (fun ⟨o, e, v, l, kv, top, cur⟩ => muW kv f.m.g.c.length o l) ((true, e1, v2, l2, [], 0, t)) (And.intro rfl (And.intro rfl (And.intro rfl (And.intro rfl (And.intro rfl (And.intro rfl (trivial))))))) (And.intro rfl (And.intro rfl (And.intro rfl (trivial)))) (⟨hp2, fun _ => ⟨[⟨0, t⟩], Dij.start hti, hl1.symm.trans hpm, fun x hx => leE_key (hmin x (hl1.mem_iff.2 hx))⟩, fun h => by cases h⟩) ent ?_
   rintro ⟨o, e, v, l, kv, top, cur⟩ hI
   try dsimp only [ca, na, GridS.l, GridS.p, MeshS.l, MeshS.lF, MeshS.p, FinderS.l, FinderS.p, heapL, heapP, heapLF, FinderS.lF]
   have hkl : (kv.length : Int) ≤ f.m.g.c.length := by
       rcases Bool.eq_false_or_eq_true o with e | e
       · obtain ⟨_, hd, _⟩ := hI.ok e; have := hd.cnt; omega
       · have := (hI.no e).2.cnt; omega
   refine Sq (Sq (Rg ?_))
   refine rp 1 rfl ?_
   refine Sn (Aw ?_)
   refine Rc rfl ?_ ?_
   ·skip
    intro ho
    obtain ⟨hp, hd, hpp, hmn⟩ := hI.ok ho
    have hmv := muW_t kv f.m.g.c.length l ho
    have hew := hd.wt e (hpp.mem_iff.2 (List.mem_cons_self ..))
    have hdt := hd.tp
    have hdl := hd.hl
    have hpl := hpp.length_eq
    simp only [List.length_cons] at hpl
    refine Sk (Aw (Sq (Bk (Sq (Sq (Rg ?_))))))
    refine rp 2 rfl ?_
    refine Wp (po_lookup rfl rfl (by exact fc_map_129_3_3) (by exact fc_zint_3)) ?_
    refine rp 5 rfl ?_
    refine Sn (Aw (Sq (Rg ?_)))
    refine rp 1 rfl ?_
    refine Sn (Aw ?_)
    refine Rc rfl ?_ ?_
    ·skip
     intro hk
     have hd2 := hd.old hpp hk
     by_cases hl0 : l = []
     ·skip
      subst hl0
      refine Ex' (Ax (Bh (Aw (Rg ?_))))
      refine rp 1 rfl ?_
      refine Wc (co_fn rfl rfl) (heap_Pop0 hb0 v) ?_
      rintro v46 _ ⟨rfl, rfl⟩
      try dsimp only [ca, na, GridS.l, GridS.p, MeshS.l, MeshS.lF, MeshS.p, FinderS.l, FinderS.p, heapL, heapP, heapLF, FinderS.lF]
      refine rp 7 rfl ?_
      refine Sn ?_
      exact at_again ((false, ⟨0, 0⟩, v, [], kv, top, cur)) (And.intro rfl (And.intro rfl (And.intro rfl (trivial)))) (And.intro rfl (And.intro rfl (And.intro rfl (And.intro rfl (And.intro rfl (And.intro rfl (trivial))))))) (⟨hI.hp, fun h => (by cases h), fun _ => ⟨rfl, hd2⟩⟩) (by rw [hmv, muW_f kv _ _ rfl]; simp) ent
     ·skip
      refine Ex' (Ax (Bh (Aw (Rg ?_))))
      refine rp 1 rfl ?_
      refine Wc (co_fn rfl rfl) (heap_Pop hb0 v l (by have := List.length_pos_iff.2 hl0; omega) (by omega) hI.hp) ?_
      rintro v46 _ ⟨e', v', l', rfl, rfl, hpm', hp', hmin'⟩
      try dsimp only [ca, na, GridS.l, GridS.p, MeshS.l, MeshS.lF, MeshS.p, FinderS.l, FinderS.p, heapL, heapP, heapLF, FinderS.lF]
      refine rp 7 rfl ?_
      refine Sn ?_
      exact at_again ((true, e', v', l', kv, top, cur)) (And.intro rfl (And.intro rfl (And.intro rfl (trivial)))) (And.intro rfl (And.intro rfl (And.intro rfl (And.intro rfl (And.intro rfl (And.intro rfl (trivial))))))) (⟨hp', fun _ => ⟨l, hd2, hpm', fun x hx => leE_key (hmin' x hx)⟩, fun h => (by cases h)⟩) (by rw [hmv, muW_t kv _ _ rfl]; have := hpm'.length_eq; simp only [List.length_cons] at this; dsimp only; omega) ent
    ·skip
     intro hk
     have hk2 : kv.lookup e.item = none := by simpa using hk
     have hd2 := hd.new hpp hmn hk2 hcl
     have hun := unk_snoc (d := e.key) hk2 hew.1.1.1 hew.1.1.2.1
     refine Sk (Aw (Sq (Rg ?_)))
     refine rp 3 rfl ?_
     refine Ws (so_mapnew rfl rfl rfl (by exact fc_map_129_3_3) (by assumption)) ?_
     refine Sn (Aw (Sq (Rg ?_)))
     refine rp 1 rfl ?_
     refine Sn (Aw (Bk ?_))
     refine r_loop (S := Nat × Value × List Ent) (fun ⟨s, v, l'⟩ => [(14, .int .i64 s)]) [(0, _), (1, _), (5, _), (6, _), (7, _), (8, _), (9, _), (10, _)] (fun ⟨s, v, l'⟩ => Blk hb0 157 [v] :: Sl eH v l' :: MpH r24 (kv ++ [(e.item, e.key)]) :: f.lF kept F) (fun ⟨s, v, l'⟩ => s ≤ 4 ∧ l'.length ≤ l.length + s ∧ HpL l' ∧ Dij f.m.g.w f.m.g.h f.m.g.c t (kv ++ [(e.item, e.key)]) l' e.key e.item s) (fun ⟨s, v, l'⟩ => 4 - s) ((0, v, l)) (And.intro rfl (And.intro rfl (And.intro rfl (And.intro rfl (And.intro rfl (And.intro rfl (And.intro rfl (And.intro rfl (trivial))))))))) (And.intro rfl (trivial)) (⟨by omega, by omega, hI.hp, hd2⟩) ent ?_
     rintro ⟨s, v, l'⟩ ⟨hs4, hll, hph, hd3⟩
     try dsimp only [ca, na, GridS.l, GridS.p, MeshS.l, MeshS.lF, MeshS.p, FinderS.l, FinderS.p, heapL, heapP, heapLF, FinderS.lF]
     have hdl3 := hd3.hl
     refine Sq (Sq (Rg ?_))
     refine rp 1 rfl ?_
     refine Wp (po_le rfl rfl) ?_
     refine Sn (Aw ?_)
     refine Rc rfl ?_ ?_
     ·skip
      intro hs
      refine Sk (Aw (Sq (Bk (Sq (Rg ?_)))))
      refine rp 4 rfl ?_
      refine Wc (co_fn rfl rfl) (where_Step f.m.g.w f.m.g.h e.item s) ?_
      rintro v68 _ ⟨rfl, rfl⟩
      try dsimp only [ca, na, GridS.l, GridS.p, MeshS.l, MeshS.lF, MeshS.p, FinderS.l, FinderS.p, heapL, heapP, heapLF, FinderS.lF]
      refine rp 1 rfl ?_
      refine Sn (Aw (Sq (Sq (Rg ?_))))
      refine rp 1 rfl ?_
      refine Wp (po_lt rfl rfl) ?_
      by_cases h1 : stepN f.m.g.w f.m.g.h e.item s < 0
      ·skip
       refine ws (st_po (po_bt (po_move rfl) (decide_eq_true h1)) rfl rfl rfl ?_)
       refine rp 19 rfl ?_
       refine Sn (Aw ?_)
       refine r_cond_t rfl rfl ?_
       refine Ex' (Ax (Bh (Aw (Rg ?_))))
       refine rp 1 rfl ?_
       refine Wp (po_add' rfl rfl (by omega) (by omega)) ?_
       refine rp 1 rfl ?_
       refine Sn ?_
       exact at_again ((s + 1, v, l')) (And.intro rfl (trivial)) (And.intro rfl (And.intro rfl (And.intro rfl (And.intro rfl (And.intro rfl (And.intro rfl (And.intro rfl (And.intro rfl (trivial))))))))) (⟨by omega, by dsimp only; omega, hph, hd3.skip (fun hn => by have := hn.1.1; omega)⟩) (by omega) ent
      ·skip
       refine ws (st_po (po_bf (po_move rfl) (decide_eq_false h1)) rfl rfl rfl ?_)
       refine rp 3 rfl ?_
       refine Wc (co_fn rfl rfl) (where_Sector f.m.g.w f.m.g.h (stepN f.m.g.w f.m.g.h e.item s)) ?_
       rintro v75 _ ⟨rfl, rfl⟩
       try dsimp only [ca, na, GridS.l, GridS.p, MeshS.l, MeshS.lF, MeshS.p, FinderS.l, FinderS.p, heapL, heapP, heapLF, FinderS.lF]
       refine rp 3 rfl ?_
       refine Wc (co_fn rfl rfl) (where_Sector f.m.g.w f.m.g.h t) ?_
       rintro v79 _ ⟨rfl, rfl⟩
       try dsimp only [ca, na, GridS.l, GridS.p, MeshS.l, MeshS.lF, MeshS.p, FinderS.l, FinderS.p, heapL, heapP, heapLF, FinderS.lF]
       refine Wp (po_ne rfl rfl) ?_
       refine rp 1 rfl ?_
       by_cases h2 : sectorN f.m.g.w f.m.g.h (stepN f.m.g.w f.m.g.h e.item s) ≠ sectorN f.m.g.w f.m.g.h t
       ·skip
        refine ws (st_po (po_bt (po_move rfl) (decide_eq_true h2)) rfl rfl rfl ?_)
        refine rp 8 rfl ?_
        refine Sn (Aw ?_)
        refine r_cond_t rfl rfl ?_
        refine Ex' (Ax (Bh (Aw (Rg ?_))))
        refine rp 1 rfl ?_
        refine Wp (po_add' rfl rfl (by omega) (by omega)) ?_
        refine rp 1 rfl ?_
        refine Sn ?_
        exact at_again ((s + 1, v, l')) (And.intro rfl (trivial)) (And.intro rfl (And.intro rfl (And.intro rfl (And.intro rfl (And.intro rfl (And.intro rfl (And.intro rfl (And.intro rfl (trivial))))))))) (⟨by omega, by dsimp only; omega, hph, hd3.skip (fun hn => h2 hn.2.2)⟩) (by omega) ent
       ·skip
        refine ws (st_po (po_bf (po_move rfl) (decide_eq_false h2)) rfl rfl rfl ?_)
        have hsc := ((step_ok hew.1.2.1 (show (0 : Int) ≤ s by omega) (by omega)).2 (by omega)).1
        refine rp 2 rfl ?_
        refine Wp (po_faddr rfl (by exact fc_field_98_1_1)) ?_
        refine Wp (po_load rfl (by exact fc_flat_27) (by rfl)) ?_
        refine rp 1 rfl ?_
        refine Wc (co_fn rfl rfl) (grid_Cost f.m.g (stepN f.m.g.w f.m.g.h e.item s) ok.bytes) ?_
        rintro v88 _ ⟨rfl, rfl⟩
        try dsimp only [ca, na, GridS.l, GridS.p, MeshS.l, MeshS.lF, MeshS.p, FinderS.l, FinderS.p, heapL, heapP, heapLF, FinderS.lF]
        refine Wp (po_eq rfl rfl) ?_
        refine rp 1 rfl ?_
        refine Sn (Aw ?_)
        refine Rc rfl ?_ ?_
        ·skip
         intro h3
         refine Ex' (Ax (Bh (Aw (Rg ?_))))
         refine rp 1 rfl ?_
         refine Wp (po_add' rfl rfl (by omega) (by omega)) ?_
         refine rp 1 rfl ?_
         refine Sn ?_
         exact at_again ((s + 1, v, l')) (And.intro rfl (trivial)) (And.intro rfl (And.intro rfl (And.intro rfl (And.intro rfl (And.intro rfl (And.intro rfl (And.intro rfl (And.intro rfl (trivial))))))))) (⟨by omega, by dsimp only; omega, hph, hd3.skip (fun hn => hn.1.2.2 (by rw [← cost_opn ok hsc]; exact h3))⟩) (by omega) ent
        ·skip
         intro h3
         have hni := (ins_iff ok (t := t)).1 ⟨⟨by omega, hsc⟩, Classical.not_not.1 h2, h3⟩
         have hce := cost_opn ok hew.1.2.1
         have hcr := hC _ hew.1.1
         refine Sk (Aw (Rg ?_))
         refine rp 4 rfl ?_
         refine Wp (po_faddr rfl (by exact fc_field_98_1_1)) ?_
         refine Wp (po_load rfl (by exact fc_flat_27) (by rfl)) ?_
         refine rp 1 rfl ?_
         refine Wc (co_fn rfl rfl) (grid_Cost f.m.g e.item ok.bytes) ?_
         rintro v98 _ ⟨rfl, rfl⟩
         try dsimp only [ca, na, GridS.l, GridS.p, MeshS.l, MeshS.lF, MeshS.p, FinderS.l, FinderS.p, heapL, heapP, heapLF, FinderS.lF]
         refine Wp (po_add' rfl rfl (by omega) (by omega)) ?_
         refine rp 1 rfl ?_
         refine Wc (co_fn rfl rfl) (heap_Push hb0 v l' (e.key + costN f.m.g.c e.item) (stepN f.m.g.w f.m.g.h e.item s) (by omega) hph) ?_
         rintro v101 _ ⟨v4, l4, rfl, rfl, hp4, hl4⟩
         try dsimp only [ca, na, GridS.l, GridS.p, MeshS.l, MeshS.lF, MeshS.p, FinderS.l, FinderS.p, heapL, heapP, heapLF, FinderS.lF]
         refine Sn (Bn (Aw (Rg ?_)))
         refine rp 1 rfl ?_
         refine Wp (po_add' rfl rfl (by omega) (by omega)) ?_
         refine rp 1 rfl ?_
         refine Sn ?_
         exact at_again ((s + 1, v4, l4)) (And.intro rfl (trivial)) (And.intro rfl (And.intro rfl (And.intro rfl (And.intro rfl (And.intro rfl (And.intro rfl (And.intro rfl (And.intro rfl (trivial))))))))) (⟨by omega, by have := hl4.length_eq; simp only [List.length_cons] at this; dsimp only; omega, hp4, hd3.push hC ⟨by omega, by omega⟩ (by rw [lookup_snoc hk2, if_pos rfl]) rfl (by simp; omega) hni (by rw [← hce]; exact hl4)⟩) (by omega) ent
     ·skip
      intro hs
      have hd4 : Dij f.m.g.w f.m.g.h f.m.g.c t (kv ++ [(e.item, e.key)]) l' e.key e.item 4 := (by rw [show (4 : Int) = s by omega]; exact hd3)
      by_cases hl0 : l' = []
      ·skip
       subst hl0
       refine Ex' (Ax (Ax (Bh (Bn (Aw (Rg ?_))))))
       refine rp 1 rfl ?_
       refine Wc (co_fn rfl rfl) (heap_Pop0 hb0 v) ?_
       rintro v46 _ ⟨rfl, rfl⟩
       try dsimp only [ca, na, GridS.l, GridS.p, MeshS.l, MeshS.lF, MeshS.p, FinderS.l, FinderS.p, heapL, heapP, heapLF, FinderS.lF]
       refine rp 7 rfl ?_
       refine Sn ?_
       exact at_again ((false, ⟨0, 0⟩, v, [], kv ++ [(e.item, e.key)], e.key, e.item)) (And.intro rfl (And.intro rfl (And.intro rfl (trivial)))) (And.intro rfl (And.intro rfl (And.intro rfl (And.intro rfl (And.intro rfl (And.intro rfl (trivial))))))) (⟨hph, fun h => (by cases h), fun _ => ⟨rfl, hd4⟩⟩) (by rw [hmv, muW_f _ _ _ rfl]; simp; omega) ent
      ·skip
       refine Ex' (Ax (Ax (Bh (Bn (Aw (Rg ?_))))))
       refine rp 1 rfl ?_
       refine Wc (co_fn rfl rfl) (heap_Pop hb0 v l' (by have := List.length_pos_iff.2 hl0; omega) (by omega) hph) ?_
       rintro v46 _ ⟨e', v', l5, rfl, rfl, hpm', hp', hmin'⟩
       try dsimp only [ca, na, GridS.l, GridS.p, MeshS.l, MeshS.lF, MeshS.p, FinderS.l, FinderS.p, heapL, heapP, heapLF, FinderS.lF]
       refine rp 7 rfl ?_
       refine Sn ?_
       exact at_again ((true, e', v', l5, kv ++ [(e.item, e.key)], e.key, e.item)) (And.intro rfl (And.intro rfl (And.intro rfl (trivial)))) (And.intro rfl (And.intro rfl (And.intro rfl (And.intro rfl (And.intro rfl (And.intro rfl (trivial))))))) (⟨hp', fun _ => ⟨l', hd4, hpm', fun x hx => leE_key (hmin' x hx)⟩, fun h => (by cases h)⟩) (by rw [hmv, muW_t _ _ _ rfl]; have := hpm'.length_eq; simp only [List.length_cons] at this; dsimp only; omega) ent
   ·skip
    intro ho
    obtain ⟨rfl, hd⟩ := hI.no (by simpa using ho)
    have hdn := hd.done (fun c hc => (hC c hc).1) (by omega)
    refine Ex' (Ax (Ax (Bh (Aw (Sq (Rg ?_))))))
    refine rp 2 rfl ?_
    refine Sn (Aw (Rt ?_))
    refine at_ret1 rfl (rv_tmp rfl) ⟨_, ⟨r24, kv, rfl, rfl, fun h => absurd hto h, fun _ => hdn.1, hdn.2⟩, ?_⟩
    try dsimp only [ca, na, GridS.l, GridS.p, MeshS.l, MeshS.lF, MeshS.p, FinderS.l, FinderS.p, heapL, heapP, heapLF, FinderS.lF]
    exact ent
end Hd
end
