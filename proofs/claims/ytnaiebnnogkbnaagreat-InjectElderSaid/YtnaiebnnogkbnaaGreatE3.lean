/- Contracts of functions of the program, and the laws of memory that they are proved with: part 3. -/
import Derived.Test.YtnaiebnnogkbnaaGreatE2
set_option linter.unusedVariables false
set_option linter.unusedSimpArgs false
section
namespace Hd
set_option maxRecDepth 100000
open Go

structure HelmS where
  b : Nat
  t : Tile
  tc : Value
  lv : Value
  l : List Seed
  dv : Value
  d : List Int
abbrev HelmS.m (s : HelmS) : List HP := [Blk s.b 91 [.int .i64 s.t.w, .int .i64 s.t.h, s.tc, s.lv, s.dv], Sl eB s.tc s.t.c, Sl eS s.lv s.l, Sl eI s.dv s.d]
abbrev HelmS.p (s : HelmS) : Value := .pointer (some ⟨s.b, 0, none⟩)
structure HelmOk (s : HelmS) : Prop where
  may : MayT s.t
  bt : ∀ x ∈ s.t.c, 1 ≤ x ∧ x ≤ 255
  dl : s.d.length = s.t.c.length
  dr : ∀ x ∈ s.d, 0 ≤ x ∧ x ≤ 1099511627776
  ll : s.l.length ≤ 2^20
theorem HelmOk.big {s : HelmS} (k : HelmOk s) : May s.t.w s.t.h ∧ (s.t.c.length : Int) = s.t.w * s.t.h ∧ s.t.c.length ≤ 256 := by
  have h1 := k.may.1
  have h2 := k.may.2.1
  unfold Sized at h1 h2
  have hmul : s.t.w * s.t.h ≤ 16 * 16 := Int.mul_le_mul h1.2 h2.2 (by omega) (by decide)
  have := k.may.2.2.1
  exact ⟨by omega, this, by omega⟩

theorem helm_near (s : HelmS) (ok : HelmOk s) (c k : Int) (hc : 0 ≤ c ∧ c < s.t.c.length) (hk : 0 ≤ k ∧ k < 4) : Spec PP 144 #[s.p, .int .i64 c, .int .i64 k] s.m (fun v M => v = .int .i64 (stepN s.t.w s.t.h c k) ∧ M = s.m) := by
  obtain ⟨hm, hlen, hsm⟩ := ok.big
  have hic : IsC s.t.w s.t.h c := ⟨hm, hc.1, by rw [← hlen]; exact hc.2⟩
  obtain ⟨s0, s1, s2, s3⟩ := step_val hic
  have hxy := isc_xy hic
  refine spec_of (Go.Proofs.Tryz.func144) rfl rfl rfl (by exact fc_enters_144) ?_
  intro g F
  try dsimp only [List.cons_append, List.nil_append, HelmS.m, HelmS.p]
  refine r_seq ?_
  refine r_reg ?_
  refine ws (st_po (po_assign rfl) rfl rfl rfl ?_)
  refine s_nil ?_
  refine at_then_wp ?_
  refine r_seq ?_
  refine r_ord [] _ [(0, 1), (1, 1), (2, 1), (3, 1), (4, 1), (5, 0), (6, 1), (7, 1), (8, 1), (9, 1), (10, 1), (11, 1), (12, 0), (13, 1), (14, 1), (15, 1)] fc_mixed (by kernel_rfl) (fun _ h => h) ?_
  refine o_fr rfl (po_move rfl) rfl rfl rfl ?_
  refine o_fr rfl (po_move rfl) rfl rfl rfl ?_
  refine o_fr rfl (po_nil rfl) rfl rfl rfl ?_
  refine o_fr rfl (po_faddr rfl (by exact fc_field_91_0_0)) rfl rfl rfl ?_
  refine o_fr rfl (po_faddr rfl (by exact fc_field_41_0_0)) rfl rfl rfl ?_
  refine o_rd rfl (po_load rfl (by exact fc_flat_3) (by rfl)) (by first | exact fun _ h => h | exact ent) rfl rfl rfl ?_
  refine o_fr rfl (po_rem' rfl rfl (by omega) (by omega)) rfl rfl rfl ?_
  refine o_fr rfl (po_move rfl) rfl rfl rfl ?_
  refine o_fr rfl (po_move rfl) rfl rfl rfl ?_
  refine o_fr rfl (po_nil rfl) rfl rfl rfl ?_
  refine o_fr rfl (po_faddr rfl (by exact fc_field_91_0_0)) rfl rfl rfl ?_
  refine o_fr rfl (po_faddr rfl (by exact fc_field_41_0_0)) rfl rfl rfl ?_
  refine o_rd rfl (po_load rfl (by exact fc_flat_3) (by rfl)) (by first | exact fun _ h => h | exact ent) rfl rfl rfl ?_
  refine o_fr rfl (po_quo' rfl rfl (by omega) (by omega) (by omega)) rfl rfl rfl ?_
  refine o_fr rfl (po_assign rfl) rfl rfl rfl ?_
  refine o_fr rfl (po_assign rfl) rfl rfl rfl ?_
  refine o_nil ?_
  refine at_then_wp ?_
  refine r_seq ?_
  refine r_block ?_
  refine r_seq ?_
  refine r_reg ?_
  refine ws (st_po (po_move rfl) rfl rfl rfl ?_)
  refine ws (st_po (po_eq rfl rfl) rfl rfl rfl ?_)
  by_cases h0 : k = 0
  · skip
    refine ws (st_po (po_bt (po_move rfl) (decide_eq_true h0)) rfl rfl rfl ?_)
    refine ws (st_po (po_move rfl) rfl rfl rfl ?_)
    refine ws (st_po (po_gt rfl rfl) rfl rfl rfl ?_)
    refine ws (st_po (po_pick_t rfl rfl) rfl rfl rfl ?_)
    refine ws (st_po (po_assign rfl) rfl rfl rfl ?_)
    refine s_nil ?_
    refine at_then_wp ?_
    first | refine r_cond_not rfl ?_ ?_ | refine r_cond_dec rfl ?_ ?_ | refine r_cond rfl ?_ ?_
    · intro hy
      refine r_seq ?_
      refine r_reg ?_
      refine ws (st_po (po_move rfl) rfl rfl rfl ?_)
      refine ws (st_po (po_move rfl) rfl rfl rfl ?_)
      refine ws (st_po (po_nil rfl) rfl rfl rfl ?_)
      refine ws (st_po (po_faddr rfl (by exact fc_field_91_0_0)) rfl rfl rfl ?_)
      refine ws (st_po (po_faddr rfl (by exact fc_field_41_0_0)) rfl rfl rfl ?_)
      refine ws (st_po (po_load rfl (by exact fc_flat_3) (by rfl)) rfl rfl rfl ?_)
      refine ws (st_po (po_sub' rfl rfl (by omega) (by omega)) rfl rfl rfl ?_)
      refine ws (st_po (po_assign rfl) rfl rfl rfl ?_)
      refine s_nil ?_
      refine at_then_wp ?_
      refine r_ret ?_
      refine at_block_ret ?_
      refine at_then_ret ?_
      refine at_ret1 rfl (rv_tmp rfl) ⟨_, ⟨by rw [h0, s0, if_pos hy], rfl⟩, ?_⟩
      try dsimp only [List.cons_append, List.nil_append, HelmS.m, HelmS.p]
      exact ent
    · intro hy
      refine r_seq ?_
      refine r_reg ?_
      refine ws (st_po (po_move rfl) rfl rfl rfl ?_)
      refine ws (st_po (po_eq rfl rfl) rfl rfl rfl ?_)
      refine ws (st_po (po_bf (po_move rfl) (decide_eq_false (by omega))) rfl rfl rfl ?_)
      refine ws (st_no rfl rfl rfl ?_)
      refine ws (st_no rfl rfl rfl ?_)
      refine ws (st_no rfl rfl rfl ?_)
      refine ws (st_no rfl rfl rfl ?_)
      refine ws (st_no rfl rfl rfl ?_)
      refine ws (st_no rfl rfl rfl ?_)
      refine ws (st_no rfl rfl rfl ?_)
      refine ws (st_no rfl rfl rfl ?_)
      refine ws (st_po (po_pick_f rfl rfl) rfl rfl rfl ?_)
      refine ws (st_po (po_assign rfl) rfl rfl rfl ?_)
      refine s_nil ?_
      refine at_then_wp ?_
      refine r_cond_f rfl rfl ?_
      refine r_seq ?_
      refine r_reg ?_
      refine ws (st_po (po_move rfl) rfl rfl rfl ?_)
      refine ws (st_po (po_eq rfl rfl) rfl rfl rfl ?_)
      refine ws (st_po (po_bf (po_move rfl) (decide_eq_false (by omega))) rfl rfl rfl ?_)
      refine ws (st_no rfl rfl rfl ?_)
      refine ws (st_no rfl rfl rfl ?_)
      refine ws (st_no rfl rfl rfl ?_)
      refine ws (st_no rfl rfl rfl ?_)
      refine ws (st_no rfl rfl rfl ?_)
      refine ws (st_no rfl rfl rfl ?_)
      refine ws (st_no rfl rfl rfl ?_)
      refine ws (st_no rfl rfl rfl ?_)
      refine ws (st_po (po_pick_f rfl rfl) rfl rfl rfl ?_)
      refine ws (st_po (po_assign rfl) rfl rfl rfl ?_)
      refine s_nil ?_
      refine at_then_wp ?_
      refine r_cond_f rfl rfl ?_
      refine r_seq ?_
      refine r_reg ?_
      refine ws (st_po (po_move rfl) rfl rfl rfl ?_)
      refine ws (st_po (po_eq rfl rfl) rfl rfl rfl ?_)
      refine ws (st_po (po_bf (po_move rfl) (decide_eq_false (by omega))) rfl rfl rfl ?_)
      refine ws (st_no rfl rfl rfl ?_)
      refine ws (st_no rfl rfl rfl ?_)
      refine ws (st_po (po_pick_f rfl rfl) rfl rfl rfl ?_)
      refine ws (st_po (po_assign rfl) rfl rfl rfl ?_)
      refine s_nil ?_
      refine at_then_wp ?_
      refine r_cond_f rfl rfl ?_
      refine r_skip ?_
      refine at_block_normal ?_
      refine at_then_wp ?_
      refine r_seq ?_
      refine r_reg ?_
      refine ws (st_po (po_assign rfl) rfl rfl rfl ?_)
      refine s_nil ?_
      refine at_then_wp ?_
      refine r_ret ?_
      refine at_ret1 rfl (rv_tmp rfl) ⟨_, ⟨by rw [h0, s0, if_neg hy], rfl⟩, ?_⟩
      try dsimp only [List.cons_append, List.nil_append, HelmS.m, HelmS.p]
      exact ent
  · skip
    refine ws (st_po (po_bf (po_move rfl) (decide_eq_false h0)) rfl rfl rfl ?_)
    refine ws (st_no rfl rfl rfl ?_)
    refine ws (st_no rfl rfl rfl ?_)
    refine ws (st_po (po_pick_f rfl rfl) rfl rfl rfl ?_)
    refine ws (st_po (po_assign rfl) rfl rfl rfl ?_)
    refine s_nil ?_
    refine at_then_wp ?_
    refine r_cond_f rfl rfl ?_
    refine r_seq ?_
    refine r_reg ?_
    refine ws (st_po (po_move rfl) rfl rfl rfl ?_)
    refine ws (st_po (po_eq rfl rfl) rfl rfl rfl ?_)
    by_cases h1 : k = 1
    · skip
      refine ws (st_po (po_bt (po_move rfl) (decide_eq_true h1)) rfl rfl rfl ?_)
      refine ws (st_po (po_move rfl) rfl rfl rfl ?_)
      refine ws (st_po (po_move rfl) rfl rfl rfl ?_)
      refine ws (st_po (po_nil rfl) rfl rfl rfl ?_)
      refine ws (st_po (po_faddr rfl (by exact fc_field_91_0_0)) rfl rfl rfl ?_)
      refine ws (st_po (po_faddr rfl (by exact fc_field_41_0_0)) rfl rfl rfl ?_)
      refine ws (st_po (po_load rfl (by exact fc_flat_3) (by rfl)) rfl rfl rfl ?_)
      refine ws (st_po (po_sub' rfl rfl (by omega) (by omega)) rfl rfl rfl ?_)
      refine ws (st_po (po_lt rfl rfl) rfl rfl rfl ?_)
      refine ws (st_po (po_pick_t rfl rfl) rfl rfl rfl ?_)
      refine ws (st_po (po_assign rfl) rfl rfl rfl ?_)
      refine s_nil ?_
      refine at_then_wp ?_
      first | refine r_cond_not rfl ?_ ?_ | refine r_cond_dec rfl ?_ ?_ | refine r_cond rfl ?_ ?_
      · intro hy
        refine r_seq ?_
        refine r_reg ?_
        refine ws (st_po (po_move rfl) rfl rfl rfl ?_)
        refine ws (st_po (po_add' rfl rfl (by omega) (by omega)) rfl rfl rfl ?_)
        refine ws (st_po (po_assign rfl) rfl rfl rfl ?_)
        refine s_nil ?_
        refine at_then_wp ?_
        refine r_ret ?_
        refine at_block_ret ?_
        refine at_then_ret ?_
        refine at_ret1 rfl (rv_tmp rfl) ⟨_, ⟨by rw [h1, s1, if_pos hy], rfl⟩, ?_⟩
        try dsimp only [List.cons_append, List.nil_append, HelmS.m, HelmS.p]
        exact ent
      · intro hy
        refine r_seq ?_
        refine r_reg ?_
        refine ws (st_po (po_move rfl) rfl rfl rfl ?_)
        refine ws (st_po (po_eq rfl rfl) rfl rfl rfl ?_)
        refine ws (st_po (po_bf (po_move rfl) (decide_eq_false (by omega))) rfl rfl rfl ?_)
        refine ws (st_no rfl rfl rfl ?_)
        refine ws (st_no rfl rfl rfl ?_)
        refine ws (st_no rfl rfl rfl ?_)
        refine ws (st_no rfl rfl rfl ?_)
        refine ws (st_no rfl rfl rfl ?_)
        refine ws (st_no rfl rfl rfl ?_)
        refine ws (st_no rfl rfl rfl ?_)
        refine ws (st_no rfl rfl rfl ?_)
        refine ws (st_po (po_pick_f rfl rfl) rfl rfl rfl ?_)
        refine ws (st_po (po_assign rfl) rfl rfl rfl ?_)
        refine s_nil ?_
        refine at_then_wp ?_
        refine r_cond_f rfl rfl ?_
        refine r_seq ?_
        refine r_reg ?_
        refine ws (st_po (po_move rfl) rfl rfl rfl ?_)
        refine ws (st_po (po_eq rfl rfl) rfl rfl rfl ?_)
        refine ws (st_po (po_bf (po_move rfl) (decide_eq_false (by omega))) rfl rfl rfl ?_)
        refine ws (st_no rfl rfl rfl ?_)
        refine ws (st_no rfl rfl rfl ?_)
        refine ws (st_po (po_pick_f rfl rfl) rfl rfl rfl ?_)
        refine ws (st_po (po_assign rfl) rfl rfl rfl ?_)
        refine s_nil ?_
        refine at_then_wp ?_
        refine r_cond_f rfl rfl ?_
        refine r_skip ?_
        refine at_block_normal ?_
        refine at_then_wp ?_
        refine r_seq ?_
        refine r_reg ?_
        refine ws (st_po (po_assign rfl) rfl rfl rfl ?_)
        refine s_nil ?_
        refine at_then_wp ?_
        refine r_ret ?_
        refine at_ret1 rfl (rv_tmp rfl) ⟨_, ⟨by rw [h1, s1, if_neg hy], rfl⟩, ?_⟩
        try dsimp only [List.cons_append, List.nil_append, HelmS.m, HelmS.p]
        exact ent
    · skip
      refine ws (st_po (po_bf (po_move rfl) (decide_eq_false h1)) rfl rfl rfl ?_)
      refine ws (st_no rfl rfl rfl ?_)
      refine ws (st_no rfl rfl rfl ?_)
      refine ws (st_no rfl rfl rfl ?_)
      refine ws (st_no rfl rfl rfl ?_)
      refine ws (st_no rfl rfl rfl ?_)
      refine ws (st_no rfl rfl rfl ?_)
      refine ws (st_no rfl rfl rfl ?_)
      refine ws (st_no rfl rfl rfl ?_)
      refine ws (st_po (po_pick_f rfl rfl) rfl rfl rfl ?_)
      refine ws (st_po (po_assign rfl) rfl rfl rfl ?_)
      refine s_nil ?_
      refine at_then_wp ?_
      refine r_cond_f rfl rfl ?_
      refine r_seq ?_
      refine r_reg ?_
      refine ws (st_po (po_move rfl) rfl rfl rfl ?_)
      refine ws (st_po (po_eq rfl rfl) rfl rfl rfl ?_)
      by_cases h2 : k = 2
      · skip
        refine ws (st_po (po_bt (po_move rfl) (decide_eq_true h2)) rfl rfl rfl ?_)
        refine ws (st_po (po_move rfl) rfl rfl rfl ?_)
        refine ws (st_po (po_move rfl) rfl rfl rfl ?_)
        refine ws (st_po (po_nil rfl) rfl rfl rfl ?_)
        refine ws (st_po (po_faddr rfl (by exact fc_field_91_0_0)) rfl rfl rfl ?_)
        refine ws (st_po (po_faddr rfl (by exact fc_field_41_1_1)) rfl rfl rfl ?_)
        refine ws (st_po (po_load rfl (by exact fc_flat_3) (by rfl)) rfl rfl rfl ?_)
        refine ws (st_po (po_sub' rfl rfl (by omega) (by omega)) rfl rfl rfl ?_)
        refine ws (st_po (po_lt rfl rfl) rfl rfl rfl ?_)
        refine ws (st_po (po_pick_t rfl rfl) rfl rfl rfl ?_)
        refine ws (st_po (po_assign rfl) rfl rfl rfl ?_)
        refine s_nil ?_
        refine at_then_wp ?_
        first | refine r_cond_not rfl ?_ ?_ | refine r_cond_dec rfl ?_ ?_ | refine r_cond rfl ?_ ?_
        · intro hy
          refine r_seq ?_
          refine r_reg ?_
          refine ws (st_po (po_move rfl) rfl rfl rfl ?_)
          refine ws (st_po (po_move rfl) rfl rfl rfl ?_)
          refine ws (st_po (po_nil rfl) rfl rfl rfl ?_)
          refine ws (st_po (po_faddr rfl (by exact fc_field_91_0_0)) rfl rfl rfl ?_)
          refine ws (st_po (po_faddr rfl (by exact fc_field_41_0_0)) rfl rfl rfl ?_)
          refine ws (st_po (po_load rfl (by exact fc_flat_3) (by rfl)) rfl rfl rfl ?_)
          refine ws (st_po (po_add' rfl rfl (by omega) (by omega)) rfl rfl rfl ?_)
          refine ws (st_po (po_assign rfl) rfl rfl rfl ?_)
          refine s_nil ?_
          refine at_then_wp ?_
          refine r_ret ?_
          refine at_block_ret ?_
          refine at_then_ret ?_
          refine at_ret1 rfl (rv_tmp rfl) ⟨_, ⟨by rw [h2, s2, if_pos hy], rfl⟩, ?_⟩
          try dsimp only [List.cons_append, List.nil_append, HelmS.m, HelmS.p]
          exact ent
        · intro hy
          refine r_seq ?_
          refine r_reg ?_
          refine ws (st_po (po_move rfl) rfl rfl rfl ?_)
          refine ws (st_po (po_eq rfl rfl) rfl rfl rfl ?_)
          refine ws (st_po (po_bf (po_move rfl) (decide_eq_false (by omega))) rfl rfl rfl ?_)
          refine ws (st_no rfl rfl rfl ?_)
          refine ws (st_no rfl rfl rfl ?_)
          refine ws (st_po (po_pick_f rfl rfl) rfl rfl rfl ?_)
          refine ws (st_po (po_assign rfl) rfl rfl rfl ?_)
          refine s_nil ?_
          refine at_then_wp ?_
          refine r_cond_f rfl rfl ?_
          refine r_skip ?_
          refine at_block_normal ?_
          refine at_then_wp ?_
          refine r_seq ?_
          refine r_reg ?_
          refine ws (st_po (po_assign rfl) rfl rfl rfl ?_)
          refine s_nil ?_
          refine at_then_wp ?_
          refine r_ret ?_
          refine at_ret1 rfl (rv_tmp rfl) ⟨_, ⟨by rw [h2, s2, if_neg hy], rfl⟩, ?_⟩
          try dsimp only [List.cons_append, List.nil_append, HelmS.m, HelmS.p]
          exact ent
      · skip
        refine ws (st_po (po_bf (po_move rfl) (decide_eq_false h2)) rfl rfl rfl ?_)
        refine ws (st_no rfl rfl rfl ?_)
        refine ws (st_no rfl rfl rfl ?_)
        refine ws (st_no rfl rfl rfl ?_)
        refine ws (st_no rfl rfl rfl ?_)
        refine ws (st_no rfl rfl rfl ?_)
        refine ws (st_no rfl rfl rfl ?_)
        refine ws (st_no rfl rfl rfl ?_)
        refine ws (st_no rfl rfl rfl ?_)
        refine ws (st_po (po_pick_f rfl rfl) rfl rfl rfl ?_)
        refine ws (st_po (po_assign rfl) rfl rfl rfl ?_)
        refine s_nil ?_
        refine at_then_wp ?_
        refine r_cond_f rfl rfl ?_
        refine r_seq ?_
        refine r_reg ?_
        refine ws (st_po (po_move rfl) rfl rfl rfl ?_)
        refine ws (st_po (po_eq rfl rfl) rfl rfl rfl ?_)
        refine ws (st_po (po_bt (po_move rfl) (decide_eq_true (by omega))) rfl rfl rfl ?_)
        refine ws (st_po (po_move rfl) rfl rfl rfl ?_)
        refine ws (st_po (po_gt rfl rfl) rfl rfl rfl ?_)
        refine ws (st_po (po_pick_t rfl rfl) rfl rfl rfl ?_)
        refine ws (st_po (po_assign rfl) rfl rfl rfl ?_)
        refine s_nil ?_
        refine at_then_wp ?_
        first | refine r_cond_not rfl ?_ ?_ | refine r_cond_dec rfl ?_ ?_ | refine r_cond rfl ?_ ?_
        · intro hy
          refine r_seq ?_
          refine r_reg ?_
          refine ws (st_po (po_move rfl) rfl rfl rfl ?_)
          refine ws (st_po (po_sub' rfl rfl (by omega) (by omega)) rfl rfl rfl ?_)
          refine ws (st_po (po_assign rfl) rfl rfl rfl ?_)
          refine s_nil ?_
          refine at_then_wp ?_
          refine r_ret ?_
          refine at_block_ret ?_
          refine at_then_ret ?_
          refine at_ret1 rfl (rv_tmp rfl) ⟨_, ⟨by rw [show k = 3 by omega, s3, if_pos hy], rfl⟩, ?_⟩
          try dsimp only [List.cons_append, List.nil_append, HelmS.m, HelmS.p]
          exact ent
        · intro hy
          refine r_skip ?_
          refine at_block_normal ?_
          refine at_then_wp ?_
          refine r_seq ?_
          refine r_reg ?_
          refine ws (st_po (po_assign rfl) rfl rfl rfl ?_)
          refine s_nil ?_
          refine at_then_wp ?_
          refine r_ret ?_
          refine at_ret1 rfl (rv_tmp rfl) ⟨_, ⟨by rw [show k = 3 by omega, s3, if_neg hy], rfl⟩, ?_⟩
          try dsimp only [List.cons_append, List.nil_append, HelmS.m, HelmS.p]
          exact ent

/-- does a local's distance come about by a side? -/
def ByN (t : Tile) (l : List Seed) (d : List Int) (c k : Int) : Prop :=
  if stepN t.w t.h c k < 0 then bestN l c k = gAt d c else gAt t.c (stepN t.w t.h c k) ≠ 255 ∧ gAt t.c (stepN t.w t.h c k) + gAt d (stepN t.w t.h c k) = gAt d c
instance (t : Tile) (l : List Seed) (d : List Int) (c k : Int) : Decidable (ByN t l d c k) := by unfold ByN; infer_instance

theorem helm_by (s : HelmS) (ok : HelmOk s) (c k : Int) (hc : 0 ≤ c ∧ c < s.t.c.length) (hk : 0 ≤ k ∧ k < 4) : Spec PP 114 #[s.p, .int .i64 c, .int .i64 k] s.m (fun v M => v = .bool (decide (ByN s.t s.l s.d c k)) ∧ M = s.m) := by
  obtain ⟨hm, hlen, hsm⟩ := ok.big
  have hic : IsC s.t.w s.t.h c := ⟨hm, hc.1, by rw [← hlen]; exact hc.2⟩
  have hdl := ok.dl
  have hst := step_ok hic hk.1 (by omega)
  have hdc : gAt s.d c = s.d[c.toNat]'(by omega) := gAt_get (by omega)
  refine spec_of (Go.Proofs.Tryz.func114) rfl rfl rfl (by exact fc_enters_114) ?_
  intro g F
  try dsimp only [List.cons_append, List.nil_append, HelmS.m, HelmS.p]
  refine r_seq ?_
  refine r_reg ?_
  refine ws (st_po (po_assign rfl) rfl rfl rfl ?_)
  refine s_nil ?_
  refine at_then_wp ?_
  refine r_seq ?_
  refine r_reg ?_
  refine ws (st_po (po_move rfl) rfl rfl rfl ?_)
  refine ws (st_po (po_move rfl) rfl rfl rfl ?_)
  refine ws (st_po (po_move rfl) rfl rfl rfl ?_)
  refine ws (st_call (co_fn rfl rfl) (helm_near s ok c k hc hk) (by infer_instance) rfl rfl rfl ?_)
  rintro v11 _ ⟨rfl, rfl⟩
  try dsimp only [List.cons_append, List.nil_append, HelmS.m, HelmS.p]
  refine ws (st_po (po_assign rfl) rfl rfl rfl ?_)
  refine s_nil ?_
  refine at_then_wp ?_
  refine r_seq ?_
  refine r_seq ?_
  refine r_reg ?_
  refine ws (st_po (po_move rfl) rfl rfl rfl ?_)
  refine ws (st_po (po_lt rfl rfl) rfl rfl rfl ?_)
  refine s_nil ?_
  refine at_then_wp ?_
  first | refine r_cond_not rfl ?_ ?_ | refine r_cond_dec rfl ?_ ?_ | refine r_cond rfl ?_ ?_
  · intro hn
    refine r_seq ?_
    refine r_ord [] _ [(0, 1), (1, 1), (2, 1), (3, 0), (4, 1), (5, 1), (7, 1), (8, 1), (9, 1), (10, 0), (11, 1), (12, 0), (13, 0), (6, 2), (14, 1), (15, 1)] fc_mixed (by kernel_rfl) (fun _ h => h) ?_
    refine o_fr rfl (po_move rfl) rfl rfl rfl ?_
    refine o_fr rfl (po_nil rfl) rfl rfl rfl ?_
    refine o_fr rfl (po_faddr rfl (by exact fc_field_91_1_3)) rfl rfl rfl ?_
    refine o_rd rfl (po_load rfl (by exact fc_flat_32) (by rfl)) (by first | exact fun _ h => h | exact ent) rfl rfl rfl ?_
    refine o_fr rfl (po_move rfl) rfl rfl rfl ?_
    refine o_fr rfl (po_move rfl) rfl rfl rfl ?_
    refine o_fr rfl (po_move rfl) rfl rfl rfl ?_
    refine o_fr rfl (po_nil rfl) rfl rfl rfl ?_
    refine o_fr rfl (po_faddr rfl (by exact fc_field_91_2_4)) rfl rfl rfl ?_
    refine o_rd rfl (po_load rfl (by exact fc_flat_35) (by rfl)) (by first | exact fun _ h => h | exact ent) rfl rfl rfl ?_
    refine o_fr rfl (po_move rfl) rfl rfl rfl ?_
    refine o_rd rfl (po_iaddr rfl rfl (by exact fc_slice_35_3_1) (by first | omega | (simp only [List.length_nil, List.length_cons, List.length_append, List.length_replicate, List.length_set, List.length_map, List.length_take, List.length_drop]; omega)) (by first | omega | (simp only [List.length_nil, List.length_cons, List.length_append, List.length_replicate, List.length_set, List.length_map, List.length_take, List.length_drop]; omega))) (by first | exact fun _ h => h | exact ent) rfl rfl rfl ?_
    refine o_rd rfl (po_load_sl rfl (List.getElem?_eq_getElem (by first | omega | (simp only [List.length_nil, List.length_cons, List.length_append, List.length_replicate, List.length_set, List.length_map, List.length_take, List.length_drop]; omega))) (by exact fc_flat_3) (by rfl)) (by first | exact fun _ h => h | exact ent) rfl rfl rfl ?_
    refine o_st rfl (st_call (co_fn rfl rfl) (seeds_Best s.lv s.l c k (by have := ok.ll; omega)) (by infer_instance) rfl rfl rfl ?_)
    rintro v20 _ ⟨rfl, rfl⟩
    try dsimp only [List.cons_append, List.nil_append, HelmS.m, HelmS.p]
    refine ⟨fun _ => (by first | exact fun _ h => h | exact ent), ?_⟩
    refine o_fr rfl (po_eq rfl rfl) rfl rfl rfl ?_
    refine o_fr rfl (po_assign rfl) rfl rfl rfl ?_
    refine o_nil ?_
    refine at_then_wp ?_
    refine r_ret ?_
    refine at_then_ret ?_
    refine at_ret1 rfl (rv_tmp rfl) ⟨_, ⟨by congr 1; refine decide_eq_decide.2 ?_; rw [ByN, if_pos hn, hdc], rfl⟩, ?_⟩
    try dsimp only [List.cons_append, List.nil_append, HelmS.m, HelmS.p]
    exact ent
  · intro hn
    have hin := (hst.2 (by omega)).1
    have hnl : stepN s.t.w s.t.h c k < s.t.c.length := by rw [hlen]; exact hin.2.2
    have hcn : gAt s.t.c (stepN s.t.w s.t.h c k) = s.t.c[(stepN s.t.w s.t.h c k).toNat]'(by omega) := gAt_get (by omega)
    have hdn : gAt s.d (stepN s.t.w s.t.h c k) = s.d[(stepN s.t.w s.t.h c k).toNat]'(by omega) := gAt_get (by omega)
    have hb1 := ok.bt _ (List.getElem_mem (show (stepN s.t.w s.t.h c k).toNat < s.t.c.length by omega))
    have hb2 := ok.dr _ (List.getElem_mem (show (stepN s.t.w s.t.h c k).toNat < s.d.length by omega))
    refine r_skip ?_
    refine at_then_wp ?_
    refine r_seq ?_
    refine r_ord [] _ [(0, 1), (1, 1), (2, 1), (3, 1), (4, 0), (5, 1), (6, 0), (7, 0), (8, 1), (9, 1), (10, 1), (11, 1), (12, 1), (13, 1), (14, 0), (15, 1), (16, 0), (17, 0), (18, 1), (19, 1), (20, 1), (21, 1), (22, 0), (23, 1), (24, 0), (25, 0), (26, 1), (27, 1), (28, 1), (29, 1), (30, 0), (31, 1), (32, 0), (33, 0), (34, 1), (35, 1), (36, 1)] fc_mixed (by kernel_rfl) (fun _ h => h) ?_
    refine o_fr rfl (po_move rfl) rfl rfl rfl ?_
    refine o_fr rfl (po_nil rfl) rfl rfl rfl ?_
    refine o_fr rfl (po_faddr rfl (by exact fc_field_91_0_0)) rfl rfl rfl ?_
    refine o_fr rfl (po_faddr rfl (by exact fc_field_41_2_2)) rfl rfl rfl ?_
    refine o_rd rfl (po_load rfl (by exact fc_flat_22) (by rfl)) (by first | exact fun _ h => h | exact ent) rfl rfl rfl ?_
    refine o_fr rfl (po_move rfl) rfl rfl rfl ?_
    refine o_rd rfl (po_iaddr rfl rfl (by exact fc_slice_22_5_1) (by first | omega | (simp only [List.length_nil, List.length_cons, List.length_append, List.length_replicate, List.length_set, List.length_map, List.length_take, List.length_drop]; omega)) (by first | omega | (simp only [List.length_nil, List.length_cons, List.length_append, List.length_replicate, List.length_set, List.length_map, List.length_take, List.length_drop]; omega))) (by first | exact fun _ h => h | exact ent) rfl rfl rfl ?_
    refine o_rd rfl (po_load_sl rfl (List.getElem?_eq_getElem (by first | omega | (simp only [List.length_nil, List.length_cons, List.length_append, List.length_replicate, List.length_set, List.length_map, List.length_take, List.length_drop]; omega))) (by exact fc_flat_5) (by rfl)) (by first | exact fun _ h => h | exact ent) rfl rfl rfl ?_
    refine o_fr rfl (po_ne rfl rfl) rfl rfl rfl ?_
    by_cases hw : s.t.c[(stepN s.t.w s.t.h c k).toNat]'(by omega) ≠ 255
    · skip
      refine o_fr rfl (po_bt (po_move rfl) (decide_eq_true hw)) rfl rfl rfl ?_
      refine o_fr rfl (po_move rfl) rfl rfl rfl ?_
      refine o_fr rfl (po_nil rfl) rfl rfl rfl ?_
      refine o_fr rfl (po_faddr rfl (by exact fc_field_91_0_0)) rfl rfl rfl ?_
      refine o_fr rfl (po_faddr rfl (by exact fc_field_41_2_2)) rfl rfl rfl ?_
      refine o_rd rfl (po_load rfl (by exact fc_flat_22) (by rfl)) (by first | exact fun _ h => h | exact ent) rfl rfl rfl ?_
      refine o_fr rfl (po_move rfl) rfl rfl rfl ?_
      refine o_rd rfl (po_iaddr rfl rfl (by exact fc_slice_22_5_1) (by first | omega | (simp only [List.length_nil, List.length_cons, List.length_append, List.length_replicate, List.length_set, List.length_map, List.length_take, List.length_drop]; omega)) (by first | omega | (simp only [List.length_nil, List.length_cons, List.length_append, List.length_replicate, List.length_set, List.length_map, List.length_take, List.length_drop]; omega))) (by first | exact fun _ h => h | exact ent) rfl rfl rfl ?_
      refine o_rd rfl (po_load_sl rfl (List.getElem?_eq_getElem (by first | omega | (simp only [List.length_nil, List.length_cons, List.length_append, List.length_replicate, List.length_set, List.length_map, List.length_take, List.length_drop]; omega))) (by exact fc_flat_5) (by rfl)) (by first | exact fun _ h => h | exact ent) rfl rfl rfl ?_
      refine o_fr rfl (po_conv_w rfl (by exact fc_int_5_u8) (by exact fc_int_3_i64) (wrap_i64 _ (by omega) (by omega))) rfl rfl rfl ?_
      refine o_fr rfl (po_move rfl) rfl rfl rfl ?_
      refine o_fr rfl (po_nil rfl) rfl rfl rfl ?_
      refine o_fr rfl (po_faddr rfl (by exact fc_field_91_2_4)) rfl rfl rfl ?_
      refine o_rd rfl (po_load rfl (by exact fc_flat_35) (by rfl)) (by first | exact fun _ h => h | exact ent) rfl rfl rfl ?_
      refine o_fr rfl (po_move rfl) rfl rfl rfl ?_
      refine o_rd rfl (po_iaddr rfl rfl (by exact fc_slice_35_3_1) (by first | omega | (simp only [List.length_nil, List.length_cons, List.length_append, List.length_replicate, List.length_set, List.length_map, List.length_take, List.length_drop]; omega)) (by first | omega | (simp only [List.length_nil, List.length_cons, List.length_append, List.length_replicate, List.length_set, List.length_map, List.length_take, List.length_drop]; omega))) (by first | exact fun _ h => h | exact ent) rfl rfl rfl ?_
      refine o_rd rfl (po_load_sl rfl (List.getElem?_eq_getElem (by first | omega | (simp only [List.length_nil, List.length_cons, List.length_append, List.length_replicate, List.length_set, List.length_map, List.length_take, List.length_drop]; omega))) (by exact fc_flat_3) (by rfl)) (by first | exact fun _ h => h | exact ent) rfl rfl rfl ?_
      refine o_fr rfl (po_add' rfl rfl (by omega) (by omega)) rfl rfl rfl ?_
      refine o_fr rfl (po_move rfl) rfl rfl rfl ?_
      refine o_fr rfl (po_nil rfl) rfl rfl rfl ?_
      refine o_fr rfl (po_faddr rfl (by exact fc_field_91_2_4)) rfl rfl rfl ?_
      refine o_rd rfl (po_load rfl (by exact fc_flat_35) (by rfl)) (by first | exact fun _ h => h | exact ent) rfl rfl rfl ?_
      refine o_fr rfl (po_move rfl) rfl rfl rfl ?_
      refine o_rd rfl (po_iaddr rfl rfl (by exact fc_slice_35_3_1) (by first | omega | (simp only [List.length_nil, List.length_cons, List.length_append, List.length_replicate, List.length_set, List.length_map, List.length_take, List.length_drop]; omega)) (by first | omega | (simp only [List.length_nil, List.length_cons, List.length_append, List.length_replicate, List.length_set, List.length_map, List.length_take, List.length_drop]; omega))) (by first | exact fun _ h => h | exact ent) rfl rfl rfl ?_
      refine o_rd rfl (po_load_sl rfl (List.getElem?_eq_getElem (by first | omega | (simp only [List.length_nil, List.length_cons, List.length_append, List.length_replicate, List.length_set, List.length_map, List.length_take, List.length_drop]; omega))) (by exact fc_flat_3) (by rfl)) (by first | exact fun _ h => h | exact ent) rfl rfl rfl ?_
      refine o_fr rfl (po_eq rfl rfl) rfl rfl rfl ?_
      refine o_fr rfl (po_pick_t rfl rfl) rfl rfl rfl ?_
      refine o_fr rfl (po_assign rfl) rfl rfl rfl ?_
      refine o_nil ?_
      refine at_then_wp ?_
      refine r_ret ?_
      refine at_ret1 rfl (rv_tmp rfl) ⟨_, ⟨by congr 1; refine decide_eq_decide.2 ?_; rw [ByN, if_neg hn, hdc, hcn, hdn]; exact ⟨fun e => ⟨hw, e⟩, fun e => e.2⟩, rfl⟩, ?_⟩
      try dsimp only [List.cons_append, List.nil_append, HelmS.m, HelmS.p]
      exact ent
    · skip
      refine o_fr rfl (po_bf (po_move rfl) (decide_eq_false hw)) rfl rfl rfl ?_
      refine o_no rfl rfl rfl rfl ?_
      refine o_no rfl rfl rfl rfl ?_
      refine o_no rfl rfl rfl rfl ?_
      refine o_no rfl rfl rfl rfl ?_
      refine o_nor rfl (by first | exact fun _ h => h | exact ent) rfl rfl rfl ?_
      refine o_no rfl rfl rfl rfl ?_
      refine o_nor rfl (by first | exact fun _ h => h | exact ent) rfl rfl rfl ?_
      refine o_nor rfl (by first | exact fun _ h => h | exact ent) rfl rfl rfl ?_
      refine o_no rfl rfl rfl rfl ?_
      refine o_no rfl rfl rfl rfl ?_
      refine o_no rfl rfl rfl rfl ?_
      refine o_no rfl rfl rfl rfl ?_
      refine o_nor rfl (by first | exact fun _ h => h | exact ent) rfl rfl rfl ?_
      refine o_no rfl rfl rfl rfl ?_
      refine o_nor rfl (by first | exact fun _ h => h | exact ent) rfl rfl rfl ?_
      refine o_nor rfl (by first | exact fun _ h => h | exact ent) rfl rfl rfl ?_
      refine o_no rfl rfl rfl rfl ?_
      refine o_no rfl rfl rfl rfl ?_
      refine o_no rfl rfl rfl rfl ?_
      refine o_no rfl rfl rfl rfl ?_
      refine o_nor rfl (by first | exact fun _ h => h | exact ent) rfl rfl rfl ?_
      refine o_no rfl rfl rfl rfl ?_
      refine o_nor rfl (by first | exact fun _ h => h | exact ent) rfl rfl rfl ?_
      refine o_nor rfl (by first | exact fun _ h => h | exact ent) rfl rfl rfl ?_
      refine o_no rfl rfl rfl rfl ?_
      refine o_fr rfl (po_pick_f rfl rfl) rfl rfl rfl ?_
      refine o_fr rfl (po_assign rfl) rfl rfl rfl ?_
      refine o_nil ?_
      refine at_then_wp ?_
      refine r_ret ?_
      refine at_ret1 rfl (rv_tmp rfl) ⟨_, ⟨by rw [decide_eq_false (by rw [ByN, if_neg hn, hcn]; exact fun e => hw e.1)], rfl⟩, ?_⟩
      try dsimp only [List.cons_append, List.nil_append, HelmS.m, HelmS.p]
      exact ent

def firstN (t : Tile) (l : List Seed) (d : List Int) (c : Int) : Int := if ByN t l d c 0 then 0 else if ByN t l d c 1 then 1 else if ByN t l d c 2 then 2 else if ByN t l d c 3 then 3 else 5
theorem helm_first (s : HelmS) (ok : HelmOk s) (c : Int) (hc : 0 ≤ c ∧ c < s.t.c.length) : Spec PP 87 #[s.p, .int .i64 c, .int .i64 0] s.m (fun v M => v = .int .i64 (firstN s.t s.l s.d c) ∧ M = s.m) := by
  refine spec_of (Go.Proofs.Tryz.func87) rfl rfl rfl (by exact fc_enters_87) ?_
  intro g F
  try dsimp only [List.cons_append, List.nil_append, HelmS.m, HelmS.p]
  refine r_seq ?_
  refine r_reg ?_
  refine ws (st_po (po_assign rfl) rfl rfl rfl ?_)
  refine s_nil ?_
  refine at_then_wp ?_
  refine r_seq ?_
  refine r_seq ?_
  refine r_reg ?_
  refine ws (st_po (po_move rfl) rfl rfl rfl ?_)
  refine s_nil ?_
  refine at_then_wp ?_
  refine r_block ?_
  refine r_seq ?_
  refine r_block ?_
  refine r_seq ?_
  refine r_block ?_
  refine r_seq ?_
  refine r_block ?_
  refine r_seq ?_
  refine r_block ?_
  refine r_seq ?_
  refine r_seq ?_
  refine r_seq ?_
  refine r_reg ?_
  refine ws (st_po (po_eq rfl rfl) rfl rfl rfl ?_)
  refine ws (st_po (po_assign rfl) rfl rfl rfl ?_)
  refine s_nil ?_
  refine at_then_wp ?_
  first | refine r_dec_t rfl (rfl) ?_ | refine r_nd_t rfl (rfl) ?_ | refine r_cond_t rfl (rfl) ?_
  refine r_exit ?_
  refine at_then_exit ?_
  refine at_then_exit ?_
  refine at_block_here ?_
  refine at_then_wp ?_
  refine r_seq ?_
  refine r_reg ?_
  refine ws (st_po (po_move rfl) rfl rfl rfl ?_)
  refine ws (st_po (po_move rfl) rfl rfl rfl ?_)
  refine ws (st_call (co_fn rfl rfl) (helm_by s ok c 0 hc (by decide)) (by infer_instance) rfl rfl rfl ?_)
  rintro v18 _ ⟨rfl, rfl⟩
  try dsimp only [List.cons_append, List.nil_append, HelmS.m, HelmS.p]
  refine s_nil ?_
  refine at_then_wp ?_
  first | refine r_cond_not rfl ?_ ?_ | refine r_cond_dec rfl ?_ ?_ | refine r_cond rfl ?_ ?_
  · intro h0
    refine r_seq ?_
    refine r_reg ?_
    refine ws (st_po (po_assign rfl) rfl rfl rfl ?_)
    refine s_nil ?_
    refine at_then_wp ?_
    refine r_ret ?_
    refine at_block_ret ?_
    refine at_then_ret ?_
    refine at_block_ret ?_
    refine at_then_ret ?_
    refine at_block_ret ?_
    refine at_then_ret ?_
    refine at_block_ret ?_
    refine at_then_ret ?_
    refine at_ret1 rfl (rv_tmp rfl) ⟨_, ⟨by rw [firstN, if_pos h0], rfl⟩, ?_⟩
    try dsimp only [List.cons_append, List.nil_append, HelmS.m, HelmS.p]
    exact ent
  · intro h0
    refine r_skip ?_
    refine at_block_normal ?_
    refine at_then_wp ?_
    refine r_seq ?_
    refine r_reg ?_
    refine ws (st_po (po_move rfl) rfl rfl rfl ?_)
    refine ws (st_po (po_move rfl) rfl rfl rfl ?_)
    refine ws (st_call (co_fn rfl rfl) (helm_by s ok c 1 hc (by decide)) (by infer_instance) rfl rfl rfl ?_)
    rintro v21 _ ⟨rfl, rfl⟩
    try dsimp only [List.cons_append, List.nil_append, HelmS.m, HelmS.p]
    refine s_nil ?_
    refine at_then_wp ?_
    first | refine r_cond_not rfl ?_ ?_ | refine r_cond_dec rfl ?_ ?_ | refine r_cond rfl ?_ ?_
    · intro h1
      refine r_seq ?_
      refine r_reg ?_
      refine ws (st_po (po_assign rfl) rfl rfl rfl ?_)
      refine s_nil ?_
      refine at_then_wp ?_
      refine r_ret ?_
      refine at_block_ret ?_
      refine at_then_ret ?_
      refine at_block_ret ?_
      refine at_then_ret ?_
      refine at_block_ret ?_
      refine at_then_ret ?_
      refine at_ret1 rfl (rv_tmp rfl) ⟨_, ⟨by rw [firstN, if_neg h0, if_pos h1], rfl⟩, ?_⟩
      try dsimp only [List.cons_append, List.nil_append, HelmS.m, HelmS.p]
      exact ent
    · intro h1
      refine r_skip ?_
      refine at_block_normal ?_
      refine at_then_wp ?_
      refine r_seq ?_
      refine r_reg ?_
      refine ws (st_po (po_move rfl) rfl rfl rfl ?_)
      refine ws (st_po (po_move rfl) rfl rfl rfl ?_)
      refine ws (st_call (co_fn rfl rfl) (helm_by s ok c 2 hc (by decide)) (by infer_instance) rfl rfl rfl ?_)
      rintro v24 _ ⟨rfl, rfl⟩
      try dsimp only [List.cons_append, List.nil_append, HelmS.m, HelmS.p]
      refine s_nil ?_
      refine at_then_wp ?_
      first | refine r_cond_not rfl ?_ ?_ | refine r_cond_dec rfl ?_ ?_ | refine r_cond rfl ?_ ?_
      · intro h2
        refine r_seq ?_
        refine r_reg ?_
        refine ws (st_po (po_assign rfl) rfl rfl rfl ?_)
        refine s_nil ?_
        refine at_then_wp ?_
        refine r_ret ?_
        refine at_block_ret ?_
        refine at_then_ret ?_
        refine at_block_ret ?_
        refine at_then_ret ?_
        refine at_ret1 rfl (rv_tmp rfl) ⟨_, ⟨by rw [firstN, if_neg h0, if_neg h1, if_pos h2], rfl⟩, ?_⟩
        try dsimp only [List.cons_append, List.nil_append, HelmS.m, HelmS.p]
        exact ent
      · intro h2
        refine r_skip ?_
        refine at_block_normal ?_
        refine at_then_wp ?_
        refine r_seq ?_
        refine r_seq ?_
        refine r_reg ?_
        refine ws (st_po (po_move rfl) rfl rfl rfl ?_)
        refine ws (st_po (po_move rfl) rfl rfl rfl ?_)
        refine ws (st_call (co_fn rfl rfl) (helm_by s ok c 3 hc (by decide)) (by infer_instance) rfl rfl rfl ?_)
        rintro v27 _ ⟨rfl, rfl⟩
        try dsimp only [List.cons_append, List.nil_append, HelmS.m, HelmS.p]
        refine s_nil ?_
        refine at_then_wp ?_
        first | refine r_cond_not rfl ?_ ?_ | refine r_cond_dec rfl ?_ ?_ | refine r_cond rfl ?_ ?_
        · intro h3
          refine r_seq ?_
          refine r_reg ?_
          refine ws (st_po (po_assign rfl) rfl rfl rfl ?_)
          refine s_nil ?_
          refine at_then_wp ?_
          refine r_ret ?_
          refine at_then_ret ?_
          refine at_block_ret ?_
          refine at_then_ret ?_
          refine at_ret1 rfl (rv_tmp rfl) ⟨_, ⟨by rw [firstN, if_neg h0, if_neg h1, if_neg h2, if_pos h3], rfl⟩, ?_⟩
          try dsimp only [List.cons_append, List.nil_append, HelmS.m, HelmS.p]
          exact ent
        · intro h3
          refine r_skip ?_
          refine at_then_wp ?_
          refine r_exit ?_
          refine at_block_here ?_
          refine at_then_wp ?_
          refine r_seq ?_
          refine r_reg ?_
          refine ws (st_po (po_assign rfl) rfl rfl rfl ?_)
          refine s_nil ?_
          refine at_then_wp ?_
          refine r_ret ?_
          refine at_ret1 rfl (rv_tmp rfl) ⟨_, ⟨by rw [firstN, if_neg h0, if_neg h1, if_neg h2, if_neg h3], rfl⟩, ?_⟩
          try dsimp only [List.cons_append, List.nil_append, HelmS.m, HelmS.p]
          exact ent

/-- 10.1: a local's direction -/
def dirN (t : Tile) (l : List Seed) (d : List Int) (c : Int) : Int := if gAt d c = 1099511627776 then 5 else if gAt d c = bestN l c 4 then 4 else firstN t l d c
theorem helm_dir (s : HelmS) (ok : HelmOk s) (c : Int) (hc : 0 ≤ c ∧ c < s.t.c.length) : Spec PP 56 #[s.p, .int .i64 c] s.m (fun v M => v = .int .i64 (dirN s.t s.l s.d c) ∧ M = s.m) := by
  have hdl := ok.dl
  have hdc : gAt s.d c = s.d[c.toNat]'(by omega) := gAt_get (by omega)
  refine spec_of (Go.Proofs.Tryz.func56) rfl rfl rfl (by exact fc_enters_56) ?_
  intro g F
  try dsimp only [List.cons_append, List.nil_append, HelmS.m, HelmS.p]
  refine r_seq ?_
  refine r_reg ?_
  refine ws (st_po (po_assign rfl) rfl rfl rfl ?_)
  refine s_nil ?_
  refine at_then_wp ?_
  refine r_seq ?_
  refine r_seq ?_
  refine r_reg ?_
  refine ws (st_po (po_move rfl) rfl rfl rfl ?_)
  refine ws (st_po (po_nil rfl) rfl rfl rfl ?_)
  refine ws (st_po (po_faddr rfl (by exact fc_field_91_2_4)) rfl rfl rfl ?_)
  refine ws (st_po (po_load rfl (by exact fc_flat_35) (by rfl)) rfl rfl rfl ?_)
  refine ws (st_po (po_move rfl) rfl rfl rfl ?_)
  refine ws (st_po (po_iaddr rfl rfl (by exact fc_slice_35_3_1) (by first | omega | (simp only [List.length_nil, List.length_cons, List.length_append, List.length_replicate, List.length_set, List.length_map, List.length_take, List.length_drop]; omega)) (by first | omega | (simp only [List.length_nil, List.length_cons, List.length_append, List.length_replicate, List.length_set, List.length_map, List.length_take, List.length_drop]; omega))) rfl rfl rfl ?_)
  refine ws (st_po (po_load_sl rfl (List.getElem?_eq_getElem (by first | omega | (simp only [List.length_nil, List.length_cons, List.length_append, List.length_replicate, List.length_set, List.length_map, List.length_take, List.length_drop]; omega))) (by exact fc_flat_3) (by rfl)) rfl rfl rfl ?_)
  refine s_nil ?_
  refine at_then_wp ?_
  refine r_block ?_
  refine r_seq ?_
  refine r_reg ?_
  refine ws (st_po (po_eq rfl rfl) rfl rfl rfl ?_)
  refine ws (st_po (po_assign rfl) rfl rfl rfl ?_)
  refine s_nil ?_
  refine at_then_wp ?_
  first | refine r_cond_not rfl ?_ ?_ | refine r_cond_dec rfl ?_ ?_ | refine r_cond rfl ?_ ?_
  · intro h0
    refine r_seq ?_
    refine r_reg ?_
    refine ws (st_po (po_assign rfl) rfl rfl rfl ?_)
    refine s_nil ?_
    refine at_then_wp ?_
    refine r_ret ?_
    refine at_block_ret ?_
    refine at_then_ret ?_
    refine at_ret1 rfl (rv_tmp rfl) ⟨_, ⟨by rw [dirN, hdc, if_pos h0], rfl⟩, ?_⟩
    try dsimp only [List.cons_append, List.nil_append, HelmS.m, HelmS.p]
    exact ent
  · intro h0
    refine r_seq ?_
    refine r_reg ?_
    refine ws (st_po (po_move rfl) rfl rfl rfl ?_)
    refine ws (st_po (po_nil rfl) rfl rfl rfl ?_)
    refine ws (st_po (po_faddr rfl (by exact fc_field_91_1_3)) rfl rfl rfl ?_)
    refine ws (st_po (po_load rfl (by exact fc_flat_32) (by rfl)) rfl rfl rfl ?_)
    refine ws (st_po (po_move rfl) rfl rfl rfl ?_)
    refine ws (st_call (co_fn rfl rfl) (seeds_Best s.lv s.l c 4 (by have := ok.ll; omega)) (by infer_instance) rfl rfl rfl ?_)
    rintro v20 _ ⟨rfl, rfl⟩
    try dsimp only [List.cons_append, List.nil_append, HelmS.m, HelmS.p]
    refine ws (st_po (po_eq rfl rfl) rfl rfl rfl ?_)
    refine ws (st_po (po_assign rfl) rfl rfl rfl ?_)
    refine s_nil ?_
    refine at_then_wp ?_
    first | refine r_cond_not rfl ?_ ?_ | refine r_cond_dec rfl ?_ ?_ | refine r_cond rfl ?_ ?_
    · intro h1
      refine r_seq ?_
      refine r_reg ?_
      refine ws (st_po (po_assign rfl) rfl rfl rfl ?_)
      refine s_nil ?_
      refine at_then_wp ?_
      refine r_ret ?_
      refine at_block_ret ?_
      refine at_then_ret ?_
      refine at_ret1 rfl (rv_tmp rfl) ⟨_, ⟨by rw [dirN, hdc, if_neg h0, if_pos h1], rfl⟩, ?_⟩
      try dsimp only [List.cons_append, List.nil_append, HelmS.m, HelmS.p]
      exact ent
    · intro h1
      refine r_skip ?_
      refine at_block_normal ?_
      refine at_then_wp ?_
      refine r_seq ?_
      refine r_reg ?_
      refine ws (st_po (po_move rfl) rfl rfl rfl ?_)
      refine ws (st_po (po_move rfl) rfl rfl rfl ?_)
      refine ws (st_call (co_fn rfl rfl) (helm_first s ok c hc) (by infer_instance) rfl rfl rfl ?_)
      rintro v24 _ ⟨rfl, rfl⟩
      try dsimp only [List.cons_append, List.nil_append, HelmS.m, HelmS.p]
      refine ws (st_po (po_assign rfl) rfl rfl rfl ?_)
      refine s_nil ?_
      refine at_then_wp ?_
      refine r_ret ?_
      refine at_ret1 rfl (rv_tmp rfl) ⟨_, ⟨by rw [dirN, hdc, if_neg h0, if_neg h1], rfl⟩, ?_⟩
      try dsimp only [List.cons_append, List.nil_append, HelmS.m, HelmS.p]
      exact ent

def dirsTo (t : Tile) (l : List Seed) (d : List Int) (k : Nat) : List Int := (List.range k).map fun (i : Nat) => dirN t l d i
theorem dist_rng {w h : Int} {C : List Int} {src : Int → Int → Prop} {d : List Int} (k : IsDist w h C src (dF d)) : ∀ x ∈ d, 0 ≤ x ∧ x ≤ 1099511627776 := by
  intro x hx
  obtain ⟨i, hi, rfl⟩ := List.getElem_of_mem hx
  have := k.rng (i : Int)
  rw [dF, if_pos (by omega), gAt_nat hi] at this
  have hI : INF = 1099511627776 := rfl
  omega
theorem steer_Field (tc lv : Value) (t : Tile) (l : List Seed) (hm : MayS t l) (hb : ∀ x ∈ t.c, 1 ≤ x ∧ x ≤ 255) (hn : l.Nodup) (hl : l.length ≤ 2^20) :
    Spec PP 24 #[tileV tc t, lv] [Sl eB tc t.c, Sl eS lv l]
      (fun v M => ∃ dv d rv, v = .tuple #[.agg #[dv, rv], .int .i64 0] ∧ M = [Sl eB tc t.c, Sl eS lv l, Sl eI dv d, Sl eI rv (dirsTo t l d t.c.length)] ∧ d.length = t.c.length ∧ IsDist t.w t.h t.c (srcS l) (dF d)) := by
  refine spec_of (Go.Proofs.Tryz.func24) rfl rfl rfl (by exact fc_enters_24) ?_
  intro g F
  try dsimp only [List.cons_append, List.nil_append, HelmS.m, HelmS.p]
  refine r_seq ?_
  refine r_reg ?_
  refine ws (st_xo (xo_box rfl rfl) rfl rfl rfl ?_)
  rintro _ _ ⟨b2, rfl, rfl⟩
  refine ws (st_xo (xo_alloc (by exact fc_zero_54)) rfl rfl rfl ?_)
  rintro _ _ ⟨b4, rfl, rfl⟩
  refine ws (st_po (po_assign rfl) rfl rfl rfl ?_)
  refine s_nil ?_
  refine at_then_wp ?_
  refine r_seq ?_
  refine r_reg ?_
  refine ws (st_po (po_loada rfl (by exact fc_agg_41_3) (by rfl)) rfl rfl rfl ?_)
  refine ws (st_po (po_move rfl) rfl rfl rfl ?_)
  refine ws (st_call (co_fn rfl rfl) (sweep_Spread tc lv t l hm hb hn hl) (by infer_instance) rfl rfl rfl ?_)
  rintro v14 _ ⟨dv, d, rfl, rfl, hdl, hd⟩
  try dsimp only [List.cons_append, List.nil_append, HelmS.m, HelmS.p]
  refine ws (st_po (po_move rfl) rfl rfl rfl ?_)
  refine ws (st_po (po_extract rfl rfl) rfl rfl rfl ?_)
  refine ws (st_po (po_extract rfl rfl) rfl rfl rfl ?_)
  refine ws (st_po (po_assign rfl) rfl rfl rfl ?_)
  refine ws (st_po (po_assign rfl) rfl rfl rfl ?_)
  refine s_nil ?_
  refine at_then_wp ?_
  refine r_seq ?_
  refine r_seq ?_
  refine r_reg ?_
  refine ws (st_po (po_move rfl) rfl rfl rfl ?_)
  refine ws (st_po (po_ne rfl rfl) rfl rfl rfl ?_)
  refine s_nil ?_
  refine at_then_wp ?_
  first | refine r_dec_f rfl (by simp) ?_ | refine r_nd_f rfl (by simp) ?_ | refine r_cond_f rfl (by simp) ?_
  refine r_skip ?_
  refine at_then_wp ?_
  refine r_seq ?_
  refine r_reg ?_
  refine ws (st_po (po_loada rfl (by exact fc_agg_41_3) (by rfl)) rfl rfl rfl ?_)
  refine ws (st_po (po_move rfl) rfl rfl rfl ?_)
  refine ws (st_po (po_move rfl) rfl rfl rfl ?_)
  refine ws (st_po (po_build1 rfl (by exact fc_zero_91) (by exact fc_places_91_0_1_2) (by exact fc_info_91) rfl) rfl rfl rfl ?_)
  refine ws (st_xo (xo_box rfl rfl) rfl rfl rfl ?_)
  rintro _ _ ⟨b25, rfl, rfl⟩
  refine ws (st_po (po_assign rfl) rfl rfl rfl ?_)
  refine s_nil ?_
  refine at_then_wp ?_
  refine r_seq ?_
  refine r_reg ?_
  refine ws (st_po (po_move rfl) rfl rfl rfl ?_)
  refine ws (st_po (po_build1 rfl (by exact fc_zero_54) (by exact fc_places_54_0) (by exact fc_info_54) rfl) rfl rfl rfl ?_)
  refine ws (st_xo (xo_alloc (by exact fc_zero_54)) rfl rfl rfl ?_)
  rintro _ _ ⟨b9, rfl, rfl⟩
  refine ws (st_so (so_storea1 rfl rfl (by exact fc_agg_54_2) rfl rfl) rfl rfl ?_)
  refine s_nil ?_
  refine at_then_wp ?_
  refine r_seq ?_
  refine r_seq ?_
  have ok : HelmOk ⟨b25, t, tc, lv, l, dv, d⟩ := ⟨hm.1, hb, hdl, dist_rng hd, hl⟩
  have hsm : t.c.length ≤ 256 := ok.big.2.2
  refine r_reg ?_
  refine ws (st_po (po_move rfl) rfl rfl rfl ?_)
  refine ws (st_po (po_len rfl (by exact fc_slice_35_3_1)) rfl rfl rfl ?_)
  refine ws (st_po (po_move rfl) rfl rfl rfl ?_)
  refine s_nil ?_
  refine at_then_wp ?_
  refine r_block ?_
  refine r_loop (S := Nat × Value × List Int) (fun ⟨k, rv, xs⟩ => [(30, .int .i64 k)]) [(4, _), (8, _), (9, _), (29, _)] (fun ⟨k, rv, xs⟩ => [Blk b9 54 [dv, rv], Blk b25 91 [.int .i64 t.w, .int .i64 t.h, tc, lv, dv], Sl eB tc t.c, Sl eS lv l, Sl eI dv d, Sl eI rv xs, Blk b4 54 [.slice none 0 0, .slice none 0 0], F]) (fun ⟨k, rv, xs⟩ => k ≤ d.length ∧ xs = dirsTo t l d k) (fun ⟨k, rv, xs⟩ => d.length - k) ((0, .slice none 0 0, [])) (And.intro rfl (And.intro rfl (And.intro rfl (And.intro rfl (trivial))))) (And.intro rfl (trivial)) (⟨by omega, rfl⟩) ent ?_
  rintro ⟨k, rv, xs⟩ ⟨hk, hxs⟩
  try dsimp only [List.cons_append, List.nil_append, HelmS.m, HelmS.p]
  have hxl : xs.length = k := by rw [hxs]; simp [dirsTo]
  refine r_seq ?_
  refine r_reg ?_
  refine ws (st_po (po_lt rfl rfl) rfl rfl rfl ?_)
  refine s_nil ?_
  refine at_then_wp ?_
  refine r_seq ?_
  first | refine r_cond_not rfl ?_ ?_ | refine r_cond_dec rfl ?_ ?_ | refine r_cond rfl ?_ ?_
  · intro hlt
    refine r_skip ?_
    refine at_then_wp ?_
    refine r_seq ?_
    refine r_block ?_
    refine r_seq ?_
    refine r_reg ?_
    refine ws (st_po (po_move rfl) rfl rfl rfl ?_)
    refine ws (st_po (po_assign rfl) rfl rfl rfl ?_)
    refine s_nil ?_
    refine at_then_wp ?_
    refine r_ord [6, 8] _ [(0, 1), (1, 0), (2, 1), (3, 1), (4, 2), (5, 2), (6, 2), (7, 1), (8, 2)] fc_mixed (by kernel_rfl) (fun _ h => h) ?_
    refine o_fr rfl (po_faddr rfl (by exact fc_field_54_1_1)) rfl rfl rfl ?_
    refine o_rd rfl (po_load rfl (by exact fc_flat_35) (by rfl)) (by first | exact fun _ h => h | exact ent) rfl rfl rfl ?_
    refine o_fr rfl (po_move rfl) rfl rfl rfl ?_
    refine o_fr rfl (po_move rfl) rfl rfl rfl ?_
    refine o_st rfl (st_call (co_fn rfl rfl) (helm_dir ⟨b25, t, tc, lv, l, dv, d⟩ ok k (by rw [← hdl]; exact ⟨by omega, hlt⟩)) (by infer_instance) rfl rfl rfl ?_)
    rintro v37 _ ⟨rfl, rfl⟩
    try dsimp only [List.cons_append, List.nil_append, HelmS.m, HelmS.p]
    refine ⟨fun _ => (by first | exact fun _ h => h | exact ent), ?_⟩
    refine o_st rfl (st_xo (xo_bslice eI [_] rfl (by exact fc_slice_35_3_1) (by exact fc_elem_3_1_8) ⟨rfl, rfl, trivial⟩ rfl (by decide)) rfl rfl rfl ?_)
    rintro v38 _ rfl
    refine ⟨fun _ => (by first | exact fun _ h => h | exact ent), ?_⟩
    refine o_st rfl (st_xo (xo_append rfl rfl (by exact fc_slice_35_3_1) (by exact fc_slice_35_3_1) (by exact fc_elem_3_1_8) (by first | omega | (simp only [List.length_nil, List.length_cons, List.length_append, List.length_replicate, List.length_set, List.length_map, List.length_take, List.length_drop]; omega)) (by first | omega | (simp only [List.length_nil, List.length_cons, List.length_append, List.length_replicate, List.length_set, List.length_map, List.length_take, List.length_drop]; omega))) rfl rfl rfl ?_)
    rintro v39 _ rfl
    refine ⟨fun h => late_no h (by kernel_rfl), ?_⟩
    refine o_fr rfl (po_faddr rfl (by exact fc_field_54_1_1)) rfl rfl rfl ?_
    refine o_st rfl (st_so (so_store1 rfl rfl (by exact fc_flat_35) rfl) rfl rfl ?_)
    refine ⟨fun h => late_no h (by kernel_rfl), ?_⟩
    refine o_nil ?_
    refine at_block_normal ?_
    refine at_then_wp ?_
    refine r_reg ?_
    refine ws (st_po (po_add' rfl rfl (by omega) (by omega)) rfl rfl rfl ?_)
    refine ws (st_po (po_move rfl) rfl rfl rfl ?_)
    refine s_nil ?_
    exact at_again ((k + 1, v39, xs ++ [dirN t l d k])) (And.intro rfl (trivial)) (And.intro rfl (And.intro rfl (And.intro rfl (And.intro rfl (trivial))))) (⟨by omega, by rw [hxs, dirsTo, dirsTo, rng_succ]⟩) (by omega) ent
  · intro hlt
    refine r_exit ?_
    refine at_then_exit ?_
    refine at_then_exit ?_
    refine at_block_here ?_
    refine at_then_wp ?_
    refine r_seq ?_
    refine r_reg ?_
    refine ws (st_po (po_loada rfl (by exact fc_agg_54_2) (by rfl)) rfl rfl rfl ?_)
    refine ws (st_so (so_storea1 rfl rfl (by exact fc_agg_54_2) rfl rfl) rfl rfl ?_)
    refine ws (st_po (po_assign rfl) rfl rfl rfl ?_)
    refine s_nil ?_
    refine at_then_wp ?_
    refine r_ret ?_
    have hke : xs = dirsTo t l d t.c.length := by rw [hxs, ← hdl, show k = d.length by omega]
    subst hke
    refine at_ret2 rfl (rv_cella rfl (by exact fc_agg_54_2) (by rfl)) (rv_tmp rfl) ⟨_, ⟨dv, d, rv, rfl, rfl, hdl, hd⟩, ?_⟩
    try dsimp only [List.cons_append, List.nil_append, HelmS.m, HelmS.p]
    exact ent
end Hd
end
section
namespace Hd
set_option maxRecDepth 100000
open Go

/-- open locals of a tile, rising -/
structure LocsOk (t : Tile) (l : List Int) : Prop where
  may : MayT t
  bt : ∀ x ∈ t.c, 1 ≤ x ∧ x ≤ 255
  op : ∀ x ∈ l, Opn t.c x
  up : Rising l
theorem LocsOk.small {t : Tile} {l : List Int} (k : LocsOk t l) : t.c.length ≤ 256 := by
  have h1 := k.may.1
  have h2 := k.may.2.1
  unfold Sized at h1 h2
  have hmul : t.w * t.h ≤ 16 * 16 := Int.mul_le_mul h1.2 h2.2 (by omega) (by decide)
  have := k.may.2.2.1
  omega
theorem rising_len {l : List Int} (h : Rising l) {n : Nat} (hb : ∀ x ∈ l, 0 ≤ x ∧ x < (n : Int)) : l.length ≤ n := by
  have key : ∀ i : Nat, (hi : i < l.length) → (i : Int) ≤ l[i] := by
    intro i
    induction i with
    | zero => intro hi; exact (hb _ (List.getElem_mem hi)).1
    | succ i ih =>
      intro hi
      have := ih (by omega)
      have := h i (i + 1) (by omega) hi (by omega)
      omega
  rcases Nat.lt_or_ge n l.length with e | e
  · have h1 := key n e
    have h2 := (hb _ (List.getElem_mem e)).2
    omega
  · exact e

theorem table_may (tc lv : Value) (t : Tile) (l : List Int) (ok : LocsOk t l) : Spec PP 145 #[tileV tc t, lv] [Sl eB tc t.c, Sl eI lv l] (fun v M => v = .bool true ∧ M = [Sl eB tc t.c, Sl eI lv l]) := by
  have hsm := ok.small
  have hll := rising_len ok.up (n := t.c.length) (fun x hx => ⟨(ok.op x hx).1, (ok.op x hx).2.1⟩)
  refine spec_of (Go.Proofs.Tryz.func145) rfl rfl rfl (by exact fc_enters_145) ?_
  intro g F
  try dsimp only [List.cons_append, List.nil_append]
  refine r_seq ?_
  refine r_reg ?_
  refine ws (st_xo (xo_box rfl rfl) rfl rfl rfl ?_)
  rintro _ _ ⟨b2, rfl, rfl⟩
  refine ws (st_po (po_assign rfl) rfl rfl rfl ?_)
  refine s_nil ?_
  refine at_then_wp ?_
  refine r_seq ?_
  refine r_seq ?_
  refine r_reg ?_
  refine ws (st_po (po_move rfl) rfl rfl rfl ?_)
  refine ws (st_po (po_len rfl (by exact fc_slice_35_3_1)) rfl rfl rfl ?_)
  refine ws (st_po (po_move rfl) rfl rfl rfl ?_)
  refine s_nil ?_
  refine at_then_wp ?_
  refine r_block ?_
  refine r_loop (S := Nat) (fun k => [(10, .int .i64 k)]) [(1, _), (2, _), (8, _), (9, _)] (fun k => [Sl eI lv l, Blk b2 41 [.int .i64 t.w, .int .i64 t.h, tc], Sl eB tc t.c, F]) (fun k => k ≤ l.length) (fun k => l.length - k) (0) (And.intro rfl (And.intro rfl (And.intro rfl (And.intro rfl (trivial))))) (And.intro rfl (trivial)) (by omega) ent ?_
  rintro k hk
  try dsimp only [List.cons_append, List.nil_append]
  refine r_seq ?_
  refine r_reg ?_
  refine ws (st_po (po_lt rfl rfl) rfl rfl rfl ?_)
  refine s_nil ?_
  refine at_then_wp ?_
  refine r_seq ?_
  first | refine r_cond_not rfl ?_ ?_ | refine r_cond_dec rfl ?_ ?_ | refine r_cond rfl ?_ ?_
  · intro hlt
    have hkl : k < l.length := by omega
    have hop := ok.op _ (List.getElem_mem hkl)
    have hat : tileAt t l[k] = gAt t.c l[k] := by rw [tileAt, if_pos ⟨hop.1, hop.2.1, ok.may⟩]
    have hbt := ok.bt _ (List.getElem_mem (show l[k].toNat < t.c.length by have := hop.1; have := hop.2.1; omega))
    rw [← gAt_get, ← hat] at hbt
    refine r_skip ?_
    refine at_then_wp ?_
    refine r_seq ?_
    refine r_block ?_
    refine r_seq ?_
    refine r_reg ?_
    refine ws (st_po (po_move rfl) rfl rfl rfl ?_)
    refine ws (st_po (po_iaddr rfl rfl (by exact fc_slice_35_3_1) (by first | omega | (simp only [List.length_nil, List.length_cons, List.length_append, List.length_replicate, List.length_set, List.length_map, List.length_take, List.length_drop]; omega)) (by first | omega | (simp only [List.length_nil, List.length_cons, List.length_append, List.length_replicate, List.length_set, List.length_map, List.length_take, List.length_drop]; omega))) rfl rfl rfl ?_)
    refine ws (st_po (po_load_sl rfl (List.getElem?_eq_getElem (by first | omega | (simp only [List.length_nil, List.length_cons, List.length_append, List.length_replicate, List.length_set, List.length_map, List.length_take, List.length_drop]; omega))) (by exact fc_flat_3) (by rfl)) rfl rfl rfl ?_)
    refine ws (st_po (po_assign rfl) rfl rfl rfl ?_)
    refine ws (st_po (po_assign rfl) rfl rfl rfl ?_)
    refine s_nil ?_
    refine at_then_wp ?_
    refine r_seq ?_
    refine r_reg ?_
    refine ws (st_po (po_loada rfl (by exact fc_agg_41_3) (by rfl)) rfl rfl rfl ?_)
    refine ws (st_po (po_move rfl) rfl rfl rfl ?_)
    refine ws (st_call (co_fn rfl rfl) (tile_At tc t (l[k]) (by omega) (fun x hx => by have := ok.bt x hx; omega)) (by infer_instance) rfl rfl rfl ?_)
    rintro v17 _ ⟨rfl, rfl⟩
    try dsimp only [List.cons_append, List.nil_append]
    refine ws (st_po (po_assign rfl) rfl rfl rfl ?_)
    refine s_nil ?_
    refine at_then_wp ?_
    refine r_seq ?_
    refine r_reg ?_
    refine ws (st_po (po_move rfl) rfl rfl rfl ?_)
    refine ws (st_po (po_eq rfl rfl) rfl rfl rfl ?_)
    refine ws (st_po (po_bf (po_move rfl) (decide_eq_false (by omega))) rfl rfl rfl ?_)
    refine ws (st_po (po_move rfl) rfl rfl rfl ?_)
    refine ws (st_po (po_eq rfl rfl) rfl rfl rfl ?_)
    refine ws (st_po (po_pick_f rfl rfl) rfl rfl rfl ?_)
    refine ws (st_po (po_bf (po_move rfl) (decide_eq_false (by rw [hat]; exact hop.2.2))) rfl rfl rfl ?_)
    refine ws (st_po (po_move rfl) rfl rfl rfl ?_)
    refine ws (st_po (po_gt rfl rfl) rfl rfl rfl ?_)
    by_cases h0 : (0 : Int) < k
    · skip
      refine ws (st_po (po_bt (po_move rfl) (decide_eq_true h0)) rfl rfl rfl ?_)
      refine ws (st_po (po_move rfl) rfl rfl rfl ?_)
      refine ws (st_po (po_move rfl) rfl rfl rfl ?_)
      refine ws (st_po (po_move rfl) rfl rfl rfl ?_)
      refine ws (st_po (po_sub' rfl rfl (by omega) (by omega)) rfl rfl rfl ?_)
      refine ws (st_po (po_iaddr rfl rfl (by exact fc_slice_35_3_1) (by first | omega | (simp only [List.length_nil, List.length_cons, List.length_append, List.length_replicate, List.length_set, List.length_map, List.length_take, List.length_drop]; omega)) (by first | omega | (simp only [List.length_nil, List.length_cons, List.length_append, List.length_replicate, List.length_set, List.length_map, List.length_take, List.length_drop]; omega))) rfl rfl rfl ?_)
      refine ws (st_po (po_load_sl rfl (List.getElem?_eq_getElem (by first | omega | (simp only [List.length_nil, List.length_cons, List.length_append, List.length_replicate, List.length_set, List.length_map, List.length_take, List.length_drop]; omega))) (by exact fc_flat_3) (by rfl)) rfl rfl rfl ?_)
      refine ws (st_po (po_le rfl rfl) rfl rfl rfl ?_)
      refine ws (st_po (po_pick_t rfl rfl) rfl rfl rfl ?_)
      refine ws (st_po (po_pick_f rfl rfl) rfl rfl rfl ?_)
      refine s_nil ?_
      refine at_then_wp ?_
      first | refine r_dec_f rfl (Int.not_le.2 (ok.up ((k : Int) - 1).toNat (k : Int).toNat (by omega) (by omega) (by omega))) ?_ | refine r_nd_f rfl (Int.not_le.2 (ok.up ((k : Int) - 1).toNat (k : Int).toNat (by omega) (by omega) (by omega))) ?_ | refine r_cond_f rfl (Int.not_le.2 (ok.up ((k : Int) - 1).toNat (k : Int).toNat (by omega) (by omega) (by omega))) ?_
      refine r_skip ?_
      refine at_block_normal ?_
      refine at_then_wp ?_
      refine r_reg ?_
      refine ws (st_po (po_add' rfl rfl (by omega) (by omega)) rfl rfl rfl ?_)
      refine ws (st_po (po_move rfl) rfl rfl rfl ?_)
      refine s_nil ?_
      exact at_again (k + 1) (And.intro rfl (trivial)) (And.intro rfl (And.intro rfl (And.intro rfl (And.intro rfl (trivial))))) (by omega) (by omega) ent
    · skip
      refine ws (st_po (po_bf (po_move rfl) (decide_eq_false h0)) rfl rfl rfl ?_)
      refine ws (st_no rfl rfl rfl ?_)
      refine ws (st_no rfl rfl rfl ?_)
      refine ws (st_no rfl rfl rfl ?_)
      refine ws (st_no rfl rfl rfl ?_)
      refine ws (st_no rfl rfl rfl ?_)
      refine ws (st_no rfl rfl rfl ?_)
      refine ws (st_no rfl rfl rfl ?_)
      refine ws (st_po (po_pick_f rfl rfl) rfl rfl rfl ?_)
      refine ws (st_po (po_pick_f rfl rfl) rfl rfl rfl ?_)
      refine s_nil ?_
      refine at_then_wp ?_
      refine r_cond_f rfl rfl ?_
      refine r_skip ?_
      refine at_block_normal ?_
      refine at_then_wp ?_
      refine r_reg ?_
      refine ws (st_po (po_add' rfl rfl (by omega) (by omega)) rfl rfl rfl ?_)
      refine ws (st_po (po_move rfl) rfl rfl rfl ?_)
      refine s_nil ?_
      exact at_again (k + 1) (And.intro rfl (trivial)) (And.intro rfl (And.intro rfl (And.intro rfl (And.intro rfl (trivial))))) (by omega) (by omega) ent
  · intro hlt
    refine r_exit ?_
    refine at_then_exit ?_
    refine at_then_exit ?_
    refine at_block_here ?_
    refine at_then_wp ?_
    refine r_seq ?_
    refine r_reg ?_
    refine ws (st_po (po_loada rfl (by exact fc_agg_41_3) (by rfl)) rfl rfl rfl ?_)
    refine ws (st_call (co_fn rfl rfl) (tile_May tc t (by omega)) (by infer_instance) rfl rfl rfl ?_)
    rintro v39 _ ⟨rfl, rfl⟩
    try dsimp only [List.cons_append, List.nil_append]
    refine ws (st_po (po_assign rfl) rfl rfl rfl ?_)
    refine s_nil ?_
    refine at_then_wp ?_
    refine r_ret ?_
    refine at_ret1 rfl (rv_tmp rfl) ⟨_, ⟨by rw [decide_eq_true ok.may], rfl⟩, ?_⟩
    try dsimp only [List.cons_append, List.nil_append]
    exact ent

/-- how far each local is from a local -/
abbrev oneS (x : Int) : List Seed := [⟨x, 4, 0⟩]
theorem one_may {t : Tile} (hm : MayT t) {x : Int} (ho : Opn t.c x) : MayS t (oneS x) := by
  refine ⟨hm, fun s hs => ?_⟩
  have : s = ⟨x, 4, 0⟩ := by simpa using hs
  subst this
  exact ⟨ho.1, ho.2.1, ho.2.2, Int.le_refl _, by simp, by simp [OutS]⟩
theorem table_To (tc : Value) (t : Tile) (x : Int) (hm : MayT t) (hb : ∀ x ∈ t.c, 1 ≤ x ∧ x ≤ 255) (ho : Opn t.c x) : Spec PP 146 #[tileV tc t, .int .i64 x] [Sl eB tc t.c]
    (fun v M => ∃ dv d, v = .tuple #[dv, .int .i64 0] ∧ M = [Sl eB tc t.c, Sl eI dv d] ∧ d.length = t.c.length ∧ IsDist t.w t.h t.c (srcS (oneS x)) (dF d)) := by
  refine spec_of (Go.Proofs.Tryz.func146) rfl rfl rfl (by exact fc_enters_146) ?_
  intro g F
  try dsimp only [List.cons_append, List.nil_append]
  refine r_seq ?_
  refine r_reg ?_
  refine ws (st_xo (xo_box rfl rfl) rfl rfl rfl ?_)
  rintro _ _ ⟨b2, rfl, rfl⟩
  refine ws (st_po (po_assign rfl) rfl rfl rfl ?_)
  refine ws (st_po (po_assign rfl) rfl rfl rfl ?_)
  refine s_nil ?_
  refine at_then_wp ?_
  refine r_seq ?_
  refine r_reg ?_
  refine ws (st_po (po_loada rfl (by exact fc_agg_41_3) (by rfl)) rfl rfl rfl ?_)
  refine ws (st_po (po_move rfl) rfl rfl rfl ?_)
  refine ws (st_po (po_build1 rfl (by exact fc_zero_45) (by exact fc_places_45_0_1) (by exact fc_info_45) rfl) rfl rfl rfl ?_)
  refine ws (st_xo (xo_bslice eS (oneS x) rfl (by exact fc_slice_32_45_3) (by exact fc_elem_45_3_24) ⟨rfl, rfl, trivial⟩ rfl (by decide)) rfl rfl rfl ?_)
  rintro v9 _ rfl
  refine ws (st_call (co_fn rfl rfl) (sweep_Spread tc v9 t (oneS x) (one_may hm ho) hb (by simp) (by simp)) (by infer_instance) rfl rfl rfl ?_)
  rintro v10 _ ⟨dv, d, rfl, rfl, hdl, hd⟩
  try dsimp only [List.cons_append, List.nil_append]
  refine ws (st_po (po_extract rfl rfl) rfl rfl rfl ?_)
  refine ws (st_po (po_extract rfl rfl) rfl rfl rfl ?_)
  refine ws (st_po (po_assign rfl) rfl rfl rfl ?_)
  refine ws (st_po (po_assign rfl) rfl rfl rfl ?_)
  refine s_nil ?_
  refine at_then_wp ?_
  refine r_ret ?_
  refine at_ret2 rfl (rv_tmp rfl) (rv_tmp rfl) ⟨_, ⟨dv, d, rfl, rfl, hdl, hd⟩, ?_⟩
  try dsimp only [List.cons_append, List.nil_append]
  exact ent

/-- a column of the table -/
def Col (t : Tile) (l : List Int) (out : List Int) (j : Nat) : Prop := ∃ (x : Int) (d : List Int), l[j]? = some x ∧ d.length = t.c.length ∧ IsDist t.w t.h t.c (srcS (oneS x)) (dF d) ∧ ∀ i y, l[i]? = some y → out[i * l.length + j]? = some (gAt d y)
theorem idx_ne {n i j i' j' : Nat} (hj : j < n) (hj' : j' < n) (h : i * n + j = i' * n + j') : i = i' ∧ j = j' := by
  have h1 : (i * n + j) % n = j := by rw [Nat.add_comm, Nat.add_mul_mod_self_right, Nat.mod_eq_of_lt hj]
  have h2 : (i' * n + j') % n = j' := by rw [Nat.add_comm, Nat.add_mul_mod_self_right, Nat.mod_eq_of_lt hj']
  have h3 : (i * n + j) / n = i := by rw [Nat.add_comm, Nat.add_mul_div_right _ _ (by omega), Nat.div_eq_of_lt hj]; omega
  have h4 : (i' * n + j') / n = i' := by rw [Nat.add_comm, Nat.add_mul_div_right _ _ (by omega), Nat.div_eq_of_lt hj']; omega
  exact ⟨by rw [← h3, h, h4], by rw [← h1, h, h2]⟩
theorem idx_lt {n i j : Nat} (hi : i < n) (hj : j < n) : i * n + j < n * n := by
  have : (i + 1) * n ≤ n * n := Nat.mul_le_mul_right _ hi
  rw [Nat.succ_mul] at this; omega
theorem Col.set {t : Tile} {l out : List Int} {j i j' : Nat} {v : Int} (h : Col t l out j) (hj : j < l.length) (hj' : j' < l.length) (hne : j ≠ j') : Col t l (out.set (i * l.length + j') v) j := by
  obtain ⟨x, d, h1, h2, h3, h4⟩ := h
  refine ⟨x, d, h1, h2, h3, fun i' y hy => ?_⟩
  rw [List.getElem?_set, if_neg (fun e => hne (idx_ne hj' hj e).2.symm)]
  exact h4 i' y hy

theorem table_Make (tc lv : Value) (t : Tile) (l : List Int) (ok : LocsOk t l) : Spec PP 117 #[tileV tc t, lv] [Sl eB tc t.c, Sl eI lv l]
    (fun v M => ∃ ov out, v = .tuple #[ov, .int .i64 0] ∧ M = [Sl eB tc t.c, Sl eI lv l, Sl eI ov out] ∧ out.length = l.length * l.length ∧ ∀ j, j < l.length → Col t l out j) := by
  have hsm := ok.small
  have hll := rising_len ok.up (n := t.c.length) (fun x hx => ⟨(ok.op x hx).1, (ok.op x hx).2.1⟩)
  have hmul := mul_1k (a := (l.length : Int)) (b := l.length) (by omega) (by omega) (by omega) (by omega)
  refine spec_of (Go.Proofs.Tryz.func117) rfl rfl rfl (by exact fc_enters_117) ?_
  intro g F
  try dsimp only [List.cons_append, List.nil_append]
  refine r_seq ?_
  refine r_reg ?_
  refine ws (st_xo (xo_box rfl rfl) rfl rfl rfl ?_)
  rintro _ _ ⟨b2, rfl, rfl⟩
  refine ws (st_po (po_assign rfl) rfl rfl rfl ?_)
  refine ws (st_po (po_assign rfl) rfl rfl rfl ?_)
  refine s_nil ?_
  refine at_then_wp ?_
  refine r_seq ?_
  refine r_seq ?_
  refine r_reg ?_
  refine ws (st_po (po_loada rfl (by exact fc_agg_41_3) (by rfl)) rfl rfl rfl ?_)
  refine ws (st_po (po_move rfl) rfl rfl rfl ?_)
  refine ws (st_call (co_fn rfl rfl) (table_may tc lv t l ok) (by infer_instance) rfl rfl rfl ?_)
  rintro v16 _ ⟨rfl, rfl⟩
  try dsimp only [List.cons_append, List.nil_append]
  refine ws (st_po (po_not rfl) rfl rfl rfl ?_)
  refine s_nil ?_
  refine at_then_wp ?_
  refine r_cond_f rfl (rfl) ?_
  refine r_skip ?_
  refine at_then_wp ?_
  refine r_seq ?_
  refine r_reg ?_
  refine ws (st_po (po_move rfl) rfl rfl rfl ?_)
  refine ws (st_po (po_len rfl (by exact fc_slice_35_3_1)) rfl rfl rfl ?_)
  refine ws (st_po (po_assign rfl) rfl rfl rfl ?_)
  refine s_nil ?_
  refine at_then_wp ?_
  refine r_seq ?_
  refine r_reg ?_
  refine ws (st_po (po_move rfl) rfl rfl rfl ?_)
  refine ws (st_po (po_move rfl) rfl rfl rfl ?_)
  refine ws (st_po (po_mul' rfl rfl (by omega) (by omega)) rfl rfl rfl ?_)
  refine ws (st_xo (xo_make eI (0) rfl rfl (by exact fc_slice_35_3_1) (by exact fc_elem_3_1_8) (by exact fc_zero_3) rfl (by first | omega | (simp only [List.length_nil, List.length_cons, List.length_append, List.length_replicate, List.length_set, List.length_map, List.length_take, List.length_drop]; omega)) (by first | omega | (simp only [List.length_nil, List.length_cons, List.length_append, List.length_replicate, List.length_set, List.length_map, List.length_take, List.length_drop]; omega)) (by first | omega | (simp only [List.length_nil, List.length_cons, List.length_append, List.length_replicate, List.length_set, List.length_map, List.length_take, List.length_drop]; omega))) rfl rfl rfl ?_)
  rintro v23 _ rfl
  refine ws (st_po (po_assign rfl) rfl rfl rfl ?_)
  refine s_nil ?_
  refine at_then_wp ?_
  refine r_seq ?_
  refine r_seq ?_
  refine r_reg ?_
  refine ws (st_po (po_move rfl) rfl rfl rfl ?_)
  refine ws (st_po (po_len rfl (by exact fc_slice_35_3_1)) rfl rfl rfl ?_)
  refine ws (st_po (po_move rfl) rfl rfl rfl ?_)
  refine s_nil ?_
  refine at_then_wp ?_
  refine r_block ?_
  have hn2 : ((l.length : Int) * l.length).toNat = l.length * l.length := by rw [← Int.natCast_mul, Int.toNat_natCast]
  rw [hn2]
  refine r_loop (S := Nat × List Int) (fun ⟨j, out⟩ => [(26, .int .i64 j)]) [(1, _), (2, _), (6, _), (7, _), (24, _), (25, _)] (fun ⟨j, out⟩ => [Sl eI v23 out, Sl eI lv l, Blk b2 41 [.int .i64 t.w, .int .i64 t.h, tc], Sl eB tc t.c, F]) (fun ⟨j, out⟩ => j ≤ l.length ∧ out.length = l.length * l.length ∧ ∀ j', j' < j → Col t l out j') (fun ⟨j, out⟩ => l.length - j) ((0, List.replicate (l.length * l.length) 0)) (And.intro rfl (And.intro rfl (And.intro rfl (And.intro rfl (And.intro rfl (And.intro rfl (trivial))))))) (And.intro rfl (trivial)) (⟨by omega, by simp, fun j' h => by omega⟩) ent ?_
  rintro ⟨j, out⟩ ⟨hj, hol, hcol⟩
  try dsimp only [List.cons_append, List.nil_append]
  refine r_seq ?_
  refine r_reg ?_
  refine ws (st_po (po_lt rfl rfl) rfl rfl rfl ?_)
  refine s_nil ?_
  refine at_then_wp ?_
  refine r_seq ?_
  first | refine r_cond_not rfl ?_ ?_ | refine r_cond_dec rfl ?_ ?_ | refine r_cond rfl ?_ ?_
  · intro hjl
    have hjl' : j < l.length := by omega
    have hop := ok.op _ (List.getElem_mem hjl')
    refine r_skip ?_
    refine at_then_wp ?_
    refine r_seq ?_
    refine r_block ?_
    refine r_seq ?_
    refine r_reg ?_
    refine ws (st_po (po_move rfl) rfl rfl rfl ?_)
    refine ws (st_po (po_iaddr rfl rfl (by exact fc_slice_35_3_1) (by first | omega | (simp only [List.length_nil, List.length_cons, List.length_append, List.length_replicate, List.length_set, List.length_map, List.length_take, List.length_drop]; omega)) (by first | omega | (simp only [List.length_nil, List.length_cons, List.length_append, List.length_replicate, List.length_set, List.length_map, List.length_take, List.length_drop]; omega))) rfl rfl rfl ?_)
    refine ws (st_po (po_load_sl rfl (List.getElem?_eq_getElem (by first | omega | (simp only [List.length_nil, List.length_cons, List.length_append, List.length_replicate, List.length_set, List.length_map, List.length_take, List.length_drop]; omega))) (by exact fc_flat_3) (by rfl)) rfl rfl rfl ?_)
    refine ws (st_po (po_assign rfl) rfl rfl rfl ?_)
    refine ws (st_po (po_assign rfl) rfl rfl rfl ?_)
    refine s_nil ?_
    refine at_then_wp ?_
    refine r_seq ?_
    refine r_reg ?_
    refine ws (st_po (po_loada rfl (by exact fc_agg_41_3) (by rfl)) rfl rfl rfl ?_)
    refine ws (st_po (po_move rfl) rfl rfl rfl ?_)
    refine ws (st_call (co_fn rfl rfl) (table_To tc t (l[j]) ok.may ok.bt hop) (by infer_instance) rfl rfl rfl ?_)
    rintro v34 _ ⟨dv, d, rfl, rfl, hdl, hd⟩
    try dsimp only [List.cons_append, List.nil_append]
    refine ws (st_po (po_move rfl) rfl rfl rfl ?_)
    refine ws (st_po (po_extract rfl rfl) rfl rfl rfl ?_)
    refine ws (st_po (po_extract rfl rfl) rfl rfl rfl ?_)
    refine ws (st_po (po_assign rfl) rfl rfl rfl ?_)
    refine ws (st_po (po_assign rfl) rfl rfl rfl ?_)
    refine s_nil ?_
    refine at_then_wp ?_
    refine r_seq ?_
    refine r_reg ?_
    refine ws (st_po (po_move rfl) rfl rfl rfl ?_)
    refine ws (st_po (po_len rfl (by exact fc_slice_35_3_1)) rfl rfl rfl ?_)
    refine ws (st_po (po_move rfl) rfl rfl rfl ?_)
    refine s_nil ?_
    refine at_then_wp ?_
    refine r_block ?_
    refine r_loop (S := Nat × List Int) (fun ⟨i, out2⟩ => [(39, .int .i64 i)]) [(1, _), (2, _), (6, _), (7, _), (8, _), (10, _), (24, _), (25, _), (26, _), (37, _), (38, _)] (fun ⟨i, out2⟩ => [Sl eI dv d, Sl eI v23 out2, Sl eI lv l, Blk b2 41 [.int .i64 t.w, .int .i64 t.h, tc], Sl eB tc t.c, F]) (fun ⟨i, out2⟩ => i ≤ l.length ∧ out2.length = l.length * l.length ∧ (∀ j', j' < j → Col t l out2 j') ∧ ∀ i' y, i' < i → l[i']? = some y → out2[i' * l.length + j]? = some (gAt d y)) (fun ⟨i, out2⟩ => l.length - i) ((0, out)) (And.intro rfl (And.intro rfl (And.intro rfl (And.intro rfl (And.intro rfl (And.intro rfl (And.intro rfl (And.intro rfl (And.intro rfl (And.intro rfl (And.intro rfl (trivial)))))))))))) (And.intro rfl (trivial)) (⟨by omega, hol, hcol, fun i' y h => by omega⟩) ent ?_
    rintro ⟨i, out2⟩ ⟨hi, hol2, hcol2, hrow⟩
    try dsimp only [List.cons_append, List.nil_append]
    refine r_seq ?_
    refine r_reg ?_
    refine ws (st_po (po_lt rfl rfl) rfl rfl rfl ?_)
    refine s_nil ?_
    refine at_then_wp ?_
    refine r_seq ?_
    first | refine r_cond_not rfl ?_ ?_ | refine r_cond_dec rfl ?_ ?_ | refine r_cond rfl ?_ ?_
    · intro hil
      have hil' : i < l.length := by omega
      have hopi := ok.op _ (List.getElem_mem hil')
      have hopi0 := hopi.1
      have hopi1 := hopi.2.1
      have hopj := ok.op _ (List.getElem_mem (show (i : Int).toNat < l.length by omega))
      have hopj0 := hopj.1
      have hopj1 := hopj.2.1
      have hix := idx_lt hil' hjl'
      have hin : ((i : Int) * l.length + j) = ((i * l.length + j : Nat) : Int) := by simp
      have hi2 : 0 ≤ (i : Int) * l.length ∧ (i : Int) * l.length ≤ 1048576 := mul_1k (by omega) (by omega) (by omega) (by omega)
      have hdg : gAt d l[i] = d[l[i].toNat]'(by omega) := gAt_get (by omega)
      have hi3 : (i : Int) * l.length + j < out2.length := by rw [hol2, hin]; omega
      refine r_skip ?_
      refine at_then_wp ?_
      refine r_seq ?_
      refine r_block ?_
      refine r_seq ?_
      refine r_reg ?_
      refine ws (st_po (po_move rfl) rfl rfl rfl ?_)
      refine ws (st_po (po_iaddr rfl rfl (by exact fc_slice_35_3_1) (by first | omega | (simp only [List.length_nil, List.length_cons, List.length_append, List.length_replicate, List.length_set, List.length_map, List.length_take, List.length_drop]; omega)) (by first | omega | (simp only [List.length_nil, List.length_cons, List.length_append, List.length_replicate, List.length_set, List.length_map, List.length_take, List.length_drop]; omega))) rfl rfl rfl ?_)
      refine ws (st_po (po_load_sl rfl (List.getElem?_eq_getElem (by first | omega | (simp only [List.length_nil, List.length_cons, List.length_append, List.length_replicate, List.length_set, List.length_map, List.length_take, List.length_drop]; omega))) (by exact fc_flat_3) (by rfl)) rfl rfl rfl ?_)
      refine ws (st_po (po_assign rfl) rfl rfl rfl ?_)
      refine ws (st_po (po_assign rfl) rfl rfl rfl ?_)
      refine s_nil ?_
      refine at_then_wp ?_
      refine r_reg ?_
      refine ws (st_po (po_move rfl) rfl rfl rfl ?_)
      refine ws (st_po (po_move rfl) rfl rfl rfl ?_)
      refine ws (st_po (po_move rfl) rfl rfl rfl ?_)
      refine ws (st_po (po_mul' rfl rfl (by omega) (by omega)) rfl rfl rfl ?_)
      refine ws (st_po (po_move rfl) rfl rfl rfl ?_)
      refine ws (st_po (po_add' rfl rfl (by omega) (by omega)) rfl rfl rfl ?_)
      refine ws (st_po (po_move rfl) rfl rfl rfl ?_)
      refine ws (st_po (po_move rfl) rfl rfl rfl ?_)
      refine ws (st_po (po_iaddr rfl rfl (by exact fc_slice_35_3_1) (by first | omega | (simp only [List.length_nil, List.length_cons, List.length_append, List.length_replicate, List.length_set, List.length_map, List.length_take, List.length_drop]; omega)) (by first | omega | (simp only [List.length_nil, List.length_cons, List.length_append, List.length_replicate, List.length_set, List.length_map, List.length_take, List.length_drop]; omega))) rfl rfl rfl ?_)
      refine ws (st_po (po_load_sl rfl (List.getElem?_eq_getElem (by first | omega | (simp only [List.length_nil, List.length_cons, List.length_append, List.length_replicate, List.length_set, List.length_map, List.length_take, List.length_drop]; omega))) (by exact fc_flat_3) (by rfl)) rfl rfl rfl ?_)
      refine ws (st_po (po_iaddr rfl rfl (by exact fc_slice_35_3_1) (by first | omega | (simp only [List.length_nil, List.length_cons, List.length_append, List.length_replicate, List.length_set, List.length_map, List.length_take, List.length_drop]; omega)) (by first | omega | (simp only [List.length_nil, List.length_cons, List.length_append, List.length_replicate, List.length_set, List.length_map, List.length_take, List.length_drop]; omega))) rfl rfl rfl ?_)
      refine ws (st_so (so_store_sl rfl rfl (List.getElem?_eq_getElem (by omega)) (by exact fc_flat_3) (by decide) (by rfl) (by rfl)) rfl rfl ?_)
      refine s_nil ?_
      refine at_block_normal ?_
      refine at_then_wp ?_
      refine r_reg ?_
      refine ws (st_po (po_add' rfl rfl (by omega) (by omega)) rfl rfl rfl ?_)
      refine ws (st_po (po_move rfl) rfl rfl rfl ?_)
      refine s_nil ?_
      rw [hin]
      simp only [Int.toNat_natCast]
      rw [← hdg]
      exact at_again ((i + 1, out2.set (i * l.length + j) (gAt d l[i]))) (And.intro rfl (trivial)) (And.intro rfl (And.intro rfl (And.intro rfl (And.intro rfl (And.intro rfl (And.intro rfl (And.intro rfl (And.intro rfl (And.intro rfl (And.intro rfl (And.intro rfl (trivial)))))))))))) (⟨by omega, by simpa using hol2, fun j' h => (hcol2 j' h).set (by omega) hjl' (by omega), fun i' y h hy => by
      rw [List.getElem?_set]
      by_cases e : i = i'
      · subst e; rw [if_pos rfl, if_pos (by omega)]; rw [List.getElem?_eq_getElem hil'] at hy; cases hy; rfl
      · rw [if_neg (fun e2 => e (idx_ne hjl' hjl' e2).1)]; exact hrow i' y (by omega) hy⟩) (by omega) ent
    · intro hil
      refine r_exit ?_
      refine at_then_exit ?_
      refine at_then_exit ?_
      refine at_block_here ?_
      refine at_block_normal ?_
      refine at_then_wp ?_
      refine r_reg ?_
      refine ws (st_po (po_add' rfl rfl (by omega) (by omega)) rfl rfl rfl ?_)
      refine ws (st_po (po_move rfl) rfl rfl rfl ?_)
      refine s_nil ?_
      exact at_again ((j + 1, out2)) (And.intro rfl (trivial)) (And.intro rfl (And.intro rfl (And.intro rfl (And.intro rfl (And.intro rfl (And.intro rfl (trivial))))))) (⟨by omega, hol2, fun j' h => by
      by_cases e : j' = j
      · subst e; exact ⟨l[j'], d, List.getElem?_eq_getElem hjl', hdl, hd, fun i' y hy => hrow i' y (by have := lt_of_get hy; omega) hy⟩
      · exact hcol2 j' (by omega)⟩) (by omega) ent
  · intro hjl
    refine r_exit ?_
    refine at_then_exit ?_
    refine at_then_exit ?_
    refine at_block_here ?_
    refine at_then_wp ?_
    refine r_seq ?_
    refine r_reg ?_
    refine ws (st_po (po_move rfl) rfl rfl rfl ?_)
    refine ws (st_po (po_assign rfl) rfl rfl rfl ?_)
    refine ws (st_po (po_assign rfl) rfl rfl rfl ?_)
    refine s_nil ?_
    refine at_then_wp ?_
    refine r_ret ?_
    refine at_ret2 rfl (rv_tmp rfl) (rv_tmp rfl) ⟨_, ⟨v23, out, rfl, rfl, hol, fun j' h => hcol j' (by omega)⟩, ?_⟩
    try dsimp only [List.cons_append, List.nil_append]
    exact ent
end Hd
end
section
namespace Hd
set_option maxRecDepth 100000
open Go

def marks (n : Nat) (f : Nat → Bool) : List Bool := (List.range n).map f
theorem marks_len (n : Nat) (f : Nat → Bool) : (marks n f).length = n := by simp [marks]
theorem marks_congr {n : Nat} {f f' : Nat → Bool} (h : ∀ l, l < n → f l = f' l) : marks n f = marks n f' := by
  unfold marks; exact List.map_congr_left fun l hl => h l (List.mem_range.1 hl)
theorem marks_set {n : Nat} (f : Nat → Bool) (i : Nat) : (marks n f).set i true = marks n (fun l => f l || decide (l = i)) := by
  unfold marks
  apply List.ext_getElem?
  intro j
  rw [List.getElem?_set]
  by_cases e : i = j
  · subst e
    by_cases hi : i < n <;> simp [hi]
  · have : ¬ j = i := fun x => e x.symm
    by_cases hj : j < n <;> simp [e, this, hj]
theorem marks_get {n : Nat} (f : Nat → Bool) (i : Nat) (h : i < (marks n f).length) : (marks n f)[i] = f i := by simp [marks]
theorem marks_0 (n : Nat) (f : Nat → Bool) (h : ∀ l, l < n → f l = false) : List.replicate n false = marks n f := by
  apply List.ext_getElem (by simp [marks])
  intro i h1 h2
  simp [marks]
  simp at h1
  rw [h i h1]

/-- does one of the first k sides lead over the edge? -/
def edgeTo (w h s : Int) (k l : Nat) : Bool := (List.range k).any fun j => decide (0 ≤ overN w h (globalN w h s l) j)
theorem edgeTo_succ (w h s : Int) (k l : Nat) : edgeTo w h s (k + 1) l = (edgeTo w h s k l || decide (0 ≤ overN w h (globalN w h s l) k)) := by simp [edgeTo, List.range_succ]
/-- 11.1: cells that have a cell of another sector beside them -/
def cellsTo (w h s : Int) (n : Nat) : List Int := ((List.range n).filter (edgeTo w h s 4)).map fun (l : Nat) => globalN w h s l
def cellsN (w h s : Int) : List Int := cellsTo w h s ((sizeN w h s).1 * (sizeN w h s).2).toNat
theorem cellsTo_succ (w h s : Int) (n : Nat) : cellsTo w h s (n + 1) = cellsTo w h s n ++ if edgeTo w h s 4 n = true then [globalN w h s n] else [] := by
  unfold cellsTo
  rw [List.range_succ, List.filter_append, List.map_append]
  congr 1
  by_cases e : edgeTo w h s 4 n = true <;> simp [e]
theorem cellsTo_len (w h s : Int) (n : Nat) : (cellsTo w h s n).length ≤ n := by
  unfold cellsTo; rw [List.length_map]
  exact Nat.le_trans (List.length_filter_le _ _) (by simp)
abbrev secN (w h s : Int) : Nat := ((sizeN w h s).1 * (sizeN w h s).2).toNat
theorem secN_eq (w h s : Int) : (secN w h s : Int) = (sizeN w h s).1 * (sizeN w h s).2 := Int.toNat_of_nonneg (Int.mul_nonneg (size_le w h s).1.1 (size_le w h s).2.1)

theorem marks_skip {w h s : Int} (hs : IsS w h s) {k : Nat} (hk : k < 4) {l0 : Int} (hl : l0 ∈ alongN (sizeN w h s).1 (sizeN w h s).2 k) (ho : ¬ 0 ≤ overN w h (globalN w h s l0) k) :
    marks (secN w h s) (edgeTo w h s k) = marks (secN w h s) (edgeTo w h s (k + 1)) := marks_congr fun l hl2 => by
  have hsn := secN_eq w h s
  rw [edgeTo_succ, decide_eq_false (fun e => ho ((over_along hs (by omega) hl (l := l) (by omega) (by omega)).1 e).2), Bool.or_false]
theorem marks_done {w h s : Int} (hs : IsS w h s) {k j : Nat} (hk : k < 4) {l0 : Int} (hl : l0 ∈ alongN (sizeN w h s).1 (sizeN w h s).2 k) (ho : 0 ≤ overN w h (globalN w h s l0) k) (hj : (alongN (sizeN w h s).1 (sizeN w h s).2 k).length ≤ j) :
    marks (secN w h s) (fun l => edgeTo w h s k l || decide ((l : Int) ∈ (alongN (sizeN w h s).1 (sizeN w h s).2 k).take j)) = marks (secN w h s) (edgeTo w h s (k + 1)) := marks_congr fun l hl2 => by
  have hsn := secN_eq w h s
  rw [edgeTo_succ, List.take_of_length_le hj]
  congr 1
  refine decide_eq_decide.2 ?_
  rw [over_along hs (by omega) hl (l := l) (by omega) (by omega)]
  exact ⟨fun e => ⟨e, ho⟩, fun e => e.1⟩
theorem marks_step {n : Nat} {f : Nat → Bool} {al : List Int} {j : Nat} (hj : j < al.length) (h0 : 0 ≤ al[j]) :
    (marks n (fun l => f l || decide ((l : Int) ∈ al.take j))).set (al[j]).toNat true = marks n (fun l => f l || decide ((l : Int) ∈ al.take (j + 1))) := by
  rw [marks_set]
  refine marks_congr fun l hl => ?_
  rw [Bool.or_assoc]
  congr 1
  rw [take_snoc al j hj, ← Bool.decide_or]
  refine decide_eq_decide.2 ?_
  rw [List.mem_append, List.mem_singleton]
  constructor
  · rintro (e | e)
    · exact .inl e
    · exact .inr (by omega)
  · rintro (e | e)
    · exact .inl e
    · exact .inr (by omega)

theorem border_Cells (w h s : Int) : Spec PP 68 #[.int .i64 w, .int .i64 h, .int .i64 s] [] (fun v M => M = [Sl eI v (cellsN w h s)]) := by
  have hz := size_le w h s
  have hmul := mul_1k (a := (sizeN w h s).1) (b := (sizeN w h s).2) (by omega) (by omega) (by omega) (by omega)
  have hn : (sizeN w h s).1 * (sizeN w h s).2 ≤ 256 := Int.le_trans (Int.mul_le_mul hz.1.2 hz.2.2 hz.2.1 (by omega)) (by omega)
  have hsn := secN_eq w h s
  refine spec_of (Go.Proofs.Tryz.func68) rfl rfl rfl (by exact fc_enters_68) ?_
  intro g F
  try dsimp only [List.cons_append, List.nil_append, GridS.l, GridS.p]
  refine r_seq ?_
  refine r_reg ?_
  refine ws (st_po (po_assign rfl) rfl rfl rfl ?_)
  refine s_nil ?_
  refine at_then_wp ?_
  refine r_seq ?_
  refine r_reg ?_
  refine ws (st_po (po_move rfl) rfl rfl rfl ?_)
  refine ws (st_po (po_move rfl) rfl rfl rfl ?_)
  refine ws (st_po (po_move rfl) rfl rfl rfl ?_)
  refine ws (st_call (co_fn rfl rfl) (where_Size w h s) (by infer_instance) rfl rfl rfl ?_)
  rintro v22 _ ⟨rfl, rfl⟩
  try dsimp only [List.cons_append, List.nil_append, GridS.l, GridS.p]
  refine ws (st_po (po_move rfl) rfl rfl rfl ?_)
  refine ws (st_po (po_extract rfl rfl) rfl rfl rfl ?_)
  refine ws (st_po (po_extract rfl rfl) rfl rfl rfl ?_)
  refine ws (st_po (po_assign rfl) rfl rfl rfl ?_)
  refine ws (st_po (po_assign rfl) rfl rfl rfl ?_)
  refine s_nil ?_
  refine at_then_wp ?_
  by_cases hs : IsS w h s
  · skip
    refine r_seq ?_
    refine r_reg ?_
    refine ws (st_po (po_move rfl) rfl rfl rfl ?_)
    refine ws (st_po (po_move rfl) rfl rfl rfl ?_)
    refine ws (st_po (po_mul' rfl rfl (by omega) (by omega)) rfl rfl rfl ?_)
    refine ws (st_xo (xo_make eT (false) rfl rfl (by exact fc_slice_136_4_1) (by exact fc_elem_4_1_1) (by exact fc_zero_4) rfl (by first | omega | (simp only [List.length_nil, List.length_cons, List.length_append, List.length_replicate, List.length_set, List.length_map, List.length_take, List.length_drop]; omega)) (by first | omega | (simp only [List.length_nil, List.length_cons, List.length_append, List.length_replicate, List.length_set, List.length_map, List.length_take, List.length_drop]; omega)) (by first | omega | (simp only [List.length_nil, List.length_cons, List.length_append, List.length_replicate, List.length_set, List.length_map, List.length_take, List.length_drop]; omega))) rfl rfl rfl ?_)
    rintro v28 _ rfl
    refine ws (st_po (po_assign rfl) rfl rfl rfl ?_)
    refine s_nil ?_
    refine at_then_wp ?_
    refine r_seq ?_
    refine r_seq ?_
    refine r_reg ?_
    refine ws (st_call (co_fn rfl rfl) (border_sides) (by infer_instance) rfl rfl rfl ?_)
    rintro v29 _ ⟨rfl, rfl⟩
    try dsimp only [List.cons_append, List.nil_append, GridS.l, GridS.p]
    refine ws (st_po (po_move rfl) rfl rfl rfl ?_)
    refine s_nil ?_
    refine at_then_wp ?_
    refine r_block ?_
    rw [marks_0 _ (edgeTo w h s 0) (fun l _ => rfl)]
    refine r_loop (S := Nat) (fun k => [(30, .int .i64 k)]) [(0, _), (1, _), (2, _), (7, _), (8, _), (9, _), (29, _)] (fun k => [Sl eT v28 (marks (secN w h s) (edgeTo w h s k)), F]) (fun k => k ≤ 4) (fun k => 4 - k) (0) (And.intro rfl (And.intro rfl (And.intro rfl (And.intro rfl (And.intro rfl (And.intro rfl (And.intro rfl (trivial)))))))) (And.intro rfl (trivial)) (by omega) ent ?_
    rintro k hk
    try dsimp only
    have hp := size_pos hs
    refine r_seq ?_
    refine r_reg ?_
    refine ws (st_po (po_lt rfl rfl) rfl rfl rfl ?_)
    refine s_nil ?_
    refine at_then_wp ?_
    refine r_seq ?_
    first | refine r_cond_not rfl ?_ ?_ | refine r_cond_dec rfl ?_ ?_ | refine r_cond rfl ?_ ?_
    · intro hlt
      refine r_skip ?_
      refine at_then_wp ?_
      refine r_seq ?_
      refine r_block ?_
      refine r_seq ?_
      refine r_reg ?_
      refine ws (st_po (po_index_arr rfl rfl (by exact fc_arr_107_4_3_1) (by exact fc_flat_3) (by omega) (by omega) (nth_sides (by omega))) rfl rfl rfl ?_)
      refine ws (st_po (po_assign rfl) rfl rfl rfl ?_)
      refine s_nil ?_
      refine at_then_wp ?_
      refine r_seq ?_
      refine r_reg ?_
      refine ws (st_po (po_move rfl) rfl rfl rfl ?_)
      refine ws (st_po (po_move rfl) rfl rfl rfl ?_)
      refine ws (st_po (po_move rfl) rfl rfl rfl ?_)
      refine ws (st_call (co_fn rfl rfl) (border_along (sizeN w h s).1 (sizeN w h s).2 k hz.1 hz.2) (by infer_instance) rfl rfl rfl ?_)
      rintro v36 _ rfl
      try dsimp only [List.cons_append, List.nil_append, GridS.l, GridS.p]
      have hal := along_len (k := (k : Int)) (tw := (sizeN w h s).1) (th := (sizeN w h s).2) (by omega) (by omega) (by omega)
      have hab := along_lt (k := (k : Int)) (tw := (sizeN w h s).1) (th := (sizeN w h s).2) (by omega) (by omega) (by omega)
      have hl0 := List.getElem_mem (show (0 : Int).toNat < (alongN (sizeN w h s).1 (sizeN w h s).2 k).length by omega)
      refine ws (st_po (po_assign rfl) rfl rfl rfl ?_)
      refine s_nil ?_
      refine at_then_wp ?_
      refine r_seq ?_
      refine r_seq ?_
      refine r_reg ?_
      refine ws (st_po (po_move rfl) rfl rfl rfl ?_)
      refine ws (st_po (po_len rfl (by exact fc_slice_35_3_1)) rfl rfl rfl ?_)
      refine ws (st_po (po_eq rfl rfl) rfl rfl rfl ?_)
      refine ws (st_po (po_bf (po_move rfl) (decide_eq_false (by omega))) rfl rfl rfl ?_)
      refine ws (st_po (po_move rfl) rfl rfl rfl ?_)
      refine ws (st_po (po_move rfl) rfl rfl rfl ?_)
      refine ws (st_po (po_move rfl) rfl rfl rfl ?_)
      refine ws (st_po (po_move rfl) rfl rfl rfl ?_)
      refine ws (st_po (po_move rfl) rfl rfl rfl ?_)
      refine ws (st_po (po_move rfl) rfl rfl rfl ?_)
      refine ws (st_po (po_iaddr rfl rfl (by exact fc_slice_35_3_1) (by first | omega | (simp only [List.length_nil, List.length_cons, List.length_append, List.length_replicate, List.length_set, List.length_map, List.length_take, List.length_drop]; omega)) (by first | omega | (simp only [List.length_nil, List.length_cons, List.length_append, List.length_replicate, List.length_set, List.length_map, List.length_take, List.length_drop]; omega))) rfl rfl rfl ?_)
      refine ws (st_po (po_load_sl rfl (List.getElem?_eq_getElem (by first | omega | (simp only [List.length_nil, List.length_cons, List.length_append, List.length_replicate, List.length_set, List.length_map, List.length_take, List.length_drop]; omega))) (by exact fc_flat_3) (by rfl)) rfl rfl rfl ?_)
      refine ws (st_call (co_fn rfl rfl) (where_Global w h s _) (by infer_instance) rfl rfl rfl ?_)
      rintro v49 _ ⟨rfl, rfl⟩
      try dsimp only [List.cons_append, List.nil_append, GridS.l, GridS.p]
      refine ws (st_po (po_move rfl) rfl rfl rfl ?_)
      refine ws (st_call (co_fn rfl rfl) (border_over w h _ k) (by infer_instance) rfl rfl rfl ?_)
      rintro v51 _ ⟨rfl, rfl⟩
      try dsimp only [List.cons_append, List.nil_append, GridS.l, GridS.p]
      refine ws (st_po (po_lt rfl rfl) rfl rfl rfl ?_)
      refine ws (st_po (po_pick_f rfl rfl) rfl rfl rfl ?_)
      refine s_nil ?_
      refine at_then_wp ?_
      first | refine r_cond_not rfl ?_ ?_ | refine r_cond_dec rfl ?_ ?_ | refine r_cond rfl ?_ ?_
      · intro ho
        refine r_exit ?_
        refine at_then_exit ?_
        refine at_block_here ?_
        refine at_then_wp ?_
        refine r_reg ?_
        refine ws (st_po (po_add' rfl rfl (by omega) (by omega)) rfl rfl rfl ?_)
        refine ws (st_po (po_move rfl) rfl rfl rfl ?_)
        refine s_nil ?_
        rw [marks_skip hs (by omega) hl0 (by omega)]
        exact at_again (k + 1) (And.intro rfl (trivial)) (And.intro rfl (And.intro rfl (And.intro rfl (And.intro rfl (And.intro rfl (And.intro rfl (And.intro rfl (trivial)))))))) (by omega) (by omega) ent
      · intro ho
        have e0 : marks (secN w h s) (edgeTo w h s k) = marks (secN w h s) (fun l => edgeTo w h s k l || decide ((l : Int) ∈ (alongN (sizeN w h s).1 (sizeN w h s).2 k).take 0)) := marks_congr fun l _ => by simp
        refine r_skip ?_
        refine at_then_wp ?_
        refine r_seq ?_
        refine r_reg ?_
        refine ws (st_po (po_move rfl) rfl rfl rfl ?_)
        refine ws (st_po (po_len rfl (by exact fc_slice_35_3_1)) rfl rfl rfl ?_)
        refine ws (st_po (po_move rfl) rfl rfl rfl ?_)
        refine s_nil ?_
        refine at_then_wp ?_
        refine r_block ?_
        rw [e0]
        refine r_loop (S := Nat) (fun j => [(56, .int .i64 j)]) [(0, _), (1, _), (2, _), (7, _), (8, _), (9, _), (29, _), (30, _), (54, _), (55, _)] (fun j => [Sl eI v36 (alongN (sizeN w h s).1 (sizeN w h s).2 k), Sl eT v28 (marks (secN w h s) (fun l => edgeTo w h s k l || decide ((l : Int) ∈ (alongN (sizeN w h s).1 (sizeN w h s).2 k).take j))), F]) (fun j => j ≤ (alongN (sizeN w h s).1 (sizeN w h s).2 k).length) (fun j => (alongN (sizeN w h s).1 (sizeN w h s).2 k).length - j) (0) (And.intro rfl (And.intro rfl (And.intro rfl (And.intro rfl (And.intro rfl (And.intro rfl (And.intro rfl (And.intro rfl (And.intro rfl (And.intro rfl (trivial))))))))))) (And.intro rfl (trivial)) (by omega) ent ?_
        rintro j hj
        try dsimp only
        refine r_seq ?_
        refine r_reg ?_
        refine ws (st_po (po_lt rfl rfl) rfl rfl rfl ?_)
        refine s_nil ?_
        refine at_then_wp ?_
        refine r_seq ?_
        first | refine r_cond_not rfl ?_ ?_ | refine r_cond_dec rfl ?_ ?_ | refine r_cond rfl ?_ ?_
        · intro hjl
          have hjb := hab _ (List.getElem_mem (show (j : Int).toNat < (alongN (sizeN w h s).1 (sizeN w h s).2 k).length by omega))
          have hml := marks_len (secN w h s) (fun l => edgeTo w h s k l || decide ((l : Int) ∈ (alongN (sizeN w h s).1 (sizeN w h s).2 k).take j))
          refine r_skip ?_
          refine at_then_wp ?_
          refine r_seq ?_
          refine r_block ?_
          refine r_seq ?_
          refine r_reg ?_
          refine ws (st_po (po_iaddr rfl rfl (by exact fc_slice_35_3_1) (by first | omega | (simp only [List.length_nil, List.length_cons, List.length_append, List.length_replicate, List.length_set, List.length_map, List.length_take, List.length_drop]; omega)) (by first | omega | (simp only [List.length_nil, List.length_cons, List.length_append, List.length_replicate, List.length_set, List.length_map, List.length_take, List.length_drop]; omega))) rfl rfl rfl ?_)
          refine ws (st_po (po_load_sl rfl (List.getElem?_eq_getElem (by first | omega | (simp only [List.length_nil, List.length_cons, List.length_append, List.length_replicate, List.length_set, List.length_map, List.length_take, List.length_drop]; omega))) (by exact fc_flat_3) (by rfl)) rfl rfl rfl ?_)
          refine ws (st_po (po_assign rfl) rfl rfl rfl ?_)
          refine s_nil ?_
          refine at_then_wp ?_
          refine r_reg ?_
          refine ws (st_po (po_move rfl) rfl rfl rfl ?_)
          refine ws (st_po (po_move rfl) rfl rfl rfl ?_)
          refine ws (st_po (po_iaddr rfl rfl (by exact fc_slice_136_4_1) (by first | omega | (simp only [List.length_nil, List.length_cons, List.length_append, List.length_replicate, List.length_set, List.length_map, List.length_take, List.length_drop]; omega)) (by first | omega | (simp only [List.length_nil, List.length_cons, List.length_append, List.length_replicate, List.length_set, List.length_map, List.length_take, List.length_drop]; omega))) rfl rfl rfl ?_)
          refine ws (st_so (so_store_sl rfl rfl (List.getElem?_eq_getElem (by omega)) (by exact fc_flat_4) (by decide) (by rfl) (by rfl)) rfl rfl ?_)
          refine s_nil ?_
          refine at_block_normal ?_
          refine at_then_wp ?_
          refine r_reg ?_
          refine ws (st_po (po_add' rfl rfl (by omega) (by omega)) rfl rfl rfl ?_)
          refine ws (st_po (po_move rfl) rfl rfl rfl ?_)
          refine s_nil ?_
          simp only [Int.toNat_natCast] at hjb ⊢
          rw [marks_step (by omega) hjb.1]
          exact at_again (j + 1) (And.intro rfl (trivial)) (And.intro rfl (And.intro rfl (And.intro rfl (And.intro rfl (And.intro rfl (And.intro rfl (And.intro rfl (And.intro rfl (And.intro rfl (And.intro rfl (trivial))))))))))) (by omega) (by omega) ent
        · intro hjl
          refine r_exit ?_
          refine at_then_exit ?_
          refine at_then_exit ?_
          refine at_block_here ?_
          refine at_block_normal ?_
          refine at_then_wp ?_
          refine r_reg ?_
          refine ws (st_po (po_add' rfl rfl (by omega) (by omega)) rfl rfl rfl ?_)
          refine ws (st_po (po_move rfl) rfl rfl rfl ?_)
          refine s_nil ?_
          rw [marks_done hs (by omega) hl0 (by omega) (by omega)]
          exact at_again (k + 1) (And.intro rfl (trivial)) (And.intro rfl (And.intro rfl (And.intro rfl (And.intro rfl (And.intro rfl (And.intro rfl (And.intro rfl (trivial)))))))) (by omega) (by omega) ent
    · intro hlt
      have hk4 : k = 4 := by omega
      subst hk4
      have hml := marks_len (secN w h s) (edgeTo w h s 4)
      refine r_exit ?_
      refine at_then_exit ?_
      refine at_then_exit ?_
      refine at_block_here ?_
      refine at_then_wp ?_
      refine r_seq ?_
      refine r_reg ?_
      refine ws (st_po (po_assign rfl) rfl rfl rfl ?_)
      refine s_nil ?_
      refine at_then_wp ?_
      refine r_seq ?_
      refine r_seq ?_
      refine r_reg ?_
      refine ws (st_po (po_move rfl) rfl rfl rfl ?_)
      refine ws (st_po (po_len rfl (by exact fc_slice_136_4_1)) rfl rfl rfl ?_)
      refine ws (st_po (po_move rfl) rfl rfl rfl ?_)
      refine s_nil ?_
      refine at_then_wp ?_
      refine r_block ?_
      refine r_loop (S := Nat × Value × List Int) (fun ⟨i, ov, xs⟩ => [(15, ov), (67, .int .i64 i)]) [(0, _), (1, _), (2, _), (65, _), (66, _)] (fun ⟨i, ov, xs⟩ => [Sl eI ov xs, Sl eT v28 (marks (secN w h s) (edgeTo w h s 4)), F]) (fun ⟨i, ov, xs⟩ => i ≤ secN w h s ∧ xs = cellsTo w h s i) (fun ⟨i, ov, xs⟩ => secN w h s - i) ((0, .slice none 0 0, [])) (And.intro rfl (And.intro rfl (And.intro rfl (And.intro rfl (And.intro rfl (trivial)))))) (And.intro rfl (And.intro rfl (trivial))) (⟨by omega, rfl⟩) ent ?_
      rintro ⟨i, ov, xs⟩ ⟨hi, hxs⟩
      try dsimp only
      have hxl := cellsTo_len w h s i
      rw [← hxs] at hxl
      refine r_seq ?_
      refine r_reg ?_
      refine ws (st_po (po_lt rfl rfl) rfl rfl rfl ?_)
      refine s_nil ?_
      refine at_then_wp ?_
      refine r_seq ?_
      first | refine r_cond_not rfl ?_ ?_ | refine r_cond_dec rfl ?_ ?_ | refine r_cond rfl ?_ ?_
      · intro hil
        refine r_skip ?_
        refine at_then_wp ?_
        refine r_seq ?_
        refine r_block ?_
        refine r_seq ?_
        refine r_reg ?_
        refine ws (st_po (po_move rfl) rfl rfl rfl ?_)
        refine ws (st_po (po_iaddr rfl rfl (by exact fc_slice_136_4_1) (by first | omega | (simp only [List.length_nil, List.length_cons, List.length_append, List.length_replicate, List.length_set, List.length_map, List.length_take, List.length_drop]; omega)) (by first | omega | (simp only [List.length_nil, List.length_cons, List.length_append, List.length_replicate, List.length_set, List.length_map, List.length_take, List.length_drop]; omega))) rfl rfl rfl ?_)
        refine ws (st_po (po_load_sl rfl (List.getElem?_eq_getElem (by first | omega | (simp only [List.length_nil, List.length_cons, List.length_append, List.length_replicate, List.length_set, List.length_map, List.length_take, List.length_drop]; omega))) (by exact fc_flat_4) (by rfl)) rfl rfl rfl ?_)
        refine ws (st_po (po_assign rfl) rfl rfl rfl ?_)
        refine ws (st_po (po_assign rfl) rfl rfl rfl ?_)
        refine s_nil ?_
        refine at_then_wp ?_
        refine r_seq ?_
        refine r_reg ?_
        refine ws (st_po (po_move rfl) rfl rfl rfl ?_)
        refine s_nil ?_
        refine at_then_wp ?_
        first | refine r_cond_not rfl ?_ ?_ | refine r_cond_dec rfl ?_ ?_ | refine r_cond rfl ?_ ?_
        · intro he
          refine r_reg ?_
          refine ws (st_po (po_move rfl) rfl rfl rfl ?_)
          refine ws (st_po (po_move rfl) rfl rfl rfl ?_)
          refine ws (st_po (po_move rfl) rfl rfl rfl ?_)
          refine ws (st_po (po_move rfl) rfl rfl rfl ?_)
          refine ws (st_po (po_move rfl) rfl rfl rfl ?_)
          refine ws (st_call (co_fn rfl rfl) (where_Global w h s i) (by infer_instance) rfl rfl rfl ?_)
          rintro v78 _ ⟨rfl, rfl⟩
          try dsimp only [List.cons_append, List.nil_append, GridS.l, GridS.p]
          refine ws (st_xo (xo_bslice eI [_] rfl (by exact fc_slice_35_3_1) (by exact fc_elem_3_1_8) ⟨rfl, rfl, trivial⟩ rfl (by decide)) rfl rfl rfl ?_)
          rintro v79 _ rfl
          refine ws (st_xo (xo_append rfl rfl (by exact fc_slice_35_3_1) (by exact fc_slice_35_3_1) (by exact fc_elem_3_1_8) (by first | omega | (simp only [List.length_nil, List.length_cons, List.length_append, List.length_replicate, List.length_set, List.length_map, List.length_take, List.length_drop]; omega)) (by first | omega | (simp only [List.length_nil, List.length_cons, List.length_append, List.length_replicate, List.length_set, List.length_map, List.length_take, List.length_drop]; omega))) rfl rfl rfl ?_)
          rintro v80 _ rfl
          refine ws (st_po (po_assign rfl) rfl rfl rfl ?_)
          refine s_nil ?_
          refine at_block_normal ?_
          refine at_then_wp ?_
          refine r_reg ?_
          refine ws (st_po (po_add' rfl rfl (by omega) (by omega)) rfl rfl rfl ?_)
          refine ws (st_po (po_move rfl) rfl rfl rfl ?_)
          refine s_nil ?_
          simp only [Int.toNat_natCast, marks_get] at he
          exact at_again ((i + 1, v80, xs ++ [globalN w h s i])) (And.intro rfl (And.intro rfl (trivial))) (And.intro rfl (And.intro rfl (And.intro rfl (And.intro rfl (And.intro rfl (trivial)))))) (⟨by omega, by rw [cellsTo_succ, if_pos he, hxs]⟩) (by omega) ent
        · intro he
          refine r_skip ?_
          refine at_block_normal ?_
          refine at_then_wp ?_
          refine r_reg ?_
          refine ws (st_po (po_add' rfl rfl (by omega) (by omega)) rfl rfl rfl ?_)
          refine ws (st_po (po_move rfl) rfl rfl rfl ?_)
          refine s_nil ?_
          simp only [Int.toNat_natCast, marks_get] at he
          exact at_again ((i + 1, ov, xs)) (And.intro rfl (And.intro rfl (trivial))) (And.intro rfl (And.intro rfl (And.intro rfl (And.intro rfl (And.intro rfl (trivial)))))) (⟨by omega, by rw [cellsTo_succ, if_neg (by simpa using he), hxs, List.append_nil]⟩) (by omega) ent
      · intro hil
        refine r_exit ?_
        refine at_then_exit ?_
        refine at_then_exit ?_
        refine at_block_here ?_
        refine at_then_wp ?_
        refine r_seq ?_
        refine r_reg ?_
        refine ws (st_po (po_move rfl) rfl rfl rfl ?_)
        refine ws (st_po (po_assign rfl) rfl rfl rfl ?_)
        refine s_nil ?_
        refine at_then_wp ?_
        refine r_ret ?_
        have e : xs = cellsN w h s := by rw [hxs, cellsN, show i = secN w h s by omega]
        subst e
        refine at_ret1 rfl (rv_tmp rfl) ⟨_, rfl, ?_⟩
        try dsimp only [List.cons_append, List.nil_append, GridS.l, GridS.p]
        exact ent
  · skip
    refine r_seq ?_
    refine r_reg ?_
    refine ws (st_po (po_move rfl) rfl rfl rfl ?_)
    refine ws (st_po (po_move rfl) rfl rfl rfl ?_)
    refine ws (st_po (po_mul' rfl rfl (by omega) (by omega)) rfl rfl rfl ?_)
    refine ws (st_xo (xo_make eT (false) rfl rfl (by exact fc_slice_136_4_1) (by exact fc_elem_4_1_1) (by exact fc_zero_4) rfl (by first | omega | (simp only [List.length_nil, List.length_cons, List.length_append, List.length_replicate, List.length_set, List.length_map, List.length_take, List.length_drop]; omega)) (by first | omega | (simp only [List.length_nil, List.length_cons, List.length_append, List.length_replicate, List.length_set, List.length_map, List.length_take, List.length_drop]; omega)) (by first | omega | (simp only [List.length_nil, List.length_cons, List.length_append, List.length_replicate, List.length_set, List.length_map, List.length_take, List.length_drop]; omega))) rfl rfl rfl ?_)
    rintro v28 _ rfl
    refine ws (st_po (po_assign rfl) rfl rfl rfl ?_)
    refine s_nil ?_
    refine at_then_wp ?_
    refine r_seq ?_
    refine r_seq ?_
    refine r_reg ?_
    refine ws (st_call (co_fn rfl rfl) (border_sides) (by infer_instance) rfl rfl rfl ?_)
    rintro v29 _ ⟨rfl, rfl⟩
    try dsimp only [List.cons_append, List.nil_append, GridS.l, GridS.p]
    have hsz : sizeN w h s = (0, 0) := by rw [sizeN, if_neg hs]
    rw [hsz]
    refine ws (st_po (po_move rfl) rfl rfl rfl ?_)
    refine s_nil ?_
    refine at_then_wp ?_
    refine r_block ?_
    rw [show List.replicate ((0 : Int) * 0).toNat false = [] from rfl]
    refine r_loop (S := Nat) (fun k => [(30, .int .i64 k)]) [(0, _), (1, _), (2, _), (7, _), (8, _), (9, _), (29, _)] (fun k => [Sl eT v28 [], F]) (fun k => k ≤ 4) (fun k => 4 - k) (0) (And.intro rfl (And.intro rfl (And.intro rfl (And.intro rfl (And.intro rfl (And.intro rfl (And.intro rfl (trivial)))))))) (And.intro rfl (trivial)) (by omega) ent ?_
    rintro k hk
    try dsimp only
    refine r_seq ?_
    refine r_reg ?_
    refine ws (st_po (po_lt rfl rfl) rfl rfl rfl ?_)
    refine s_nil ?_
    refine at_then_wp ?_
    refine r_seq ?_
    first | refine r_cond_not rfl ?_ ?_ | refine r_cond_dec rfl ?_ ?_ | refine r_cond rfl ?_ ?_
    · intro hlt
      refine r_skip ?_
      refine at_then_wp ?_
      refine r_seq ?_
      refine r_block ?_
      refine r_seq ?_
      refine r_reg ?_
      refine ws (st_po (po_index_arr rfl rfl (by exact fc_arr_107_4_3_1) (by exact fc_flat_3) (by omega) (by omega) (nth_sides (by omega))) rfl rfl rfl ?_)
      refine ws (st_po (po_assign rfl) rfl rfl rfl ?_)
      refine s_nil ?_
      refine at_then_wp ?_
      refine r_seq ?_
      refine r_reg ?_
      refine ws (st_po (po_move rfl) rfl rfl rfl ?_)
      refine ws (st_po (po_move rfl) rfl rfl rfl ?_)
      refine ws (st_po (po_move rfl) rfl rfl rfl ?_)
      refine ws (st_call (co_fn rfl rfl) (border_along 0 0 k (by omega) (by omega)) (by infer_instance) rfl rfl rfl ?_)
      rintro v36 _ rfl
      try dsimp only [List.cons_append, List.nil_append, GridS.l, GridS.p]
      have hal : (alongN 0 0 k).length = 0 := by unfold alongN; split <;> (try split) <;> (try split) <;> (try split) <;> simp
      refine ws (st_po (po_assign rfl) rfl rfl rfl ?_)
      refine s_nil ?_
      refine at_then_wp ?_
      refine r_seq ?_
      refine r_seq ?_
      refine r_reg ?_
      refine ws (st_po (po_move rfl) rfl rfl rfl ?_)
      refine ws (st_po (po_len rfl (by exact fc_slice_35_3_1)) rfl rfl rfl ?_)
      refine ws (st_po (po_eq rfl rfl) rfl rfl rfl ?_)
      refine ws (st_po (po_bt (po_move rfl) (decide_eq_true (by omega))) rfl rfl rfl ?_)
      refine ws (st_no rfl rfl rfl ?_)
      refine ws (st_no rfl rfl rfl ?_)
      refine ws (st_no rfl rfl rfl ?_)
      refine ws (st_no rfl rfl rfl ?_)
      refine ws (st_no rfl rfl rfl ?_)
      refine ws (st_no rfl rfl rfl ?_)
      refine ws (st_no rfl rfl rfl ?_)
      refine ws (st_no rfl rfl rfl ?_)
      refine ws (st_no rfl rfl rfl ?_)
      refine ws (st_no rfl rfl rfl ?_)
      refine ws (st_no rfl rfl rfl ?_)
      refine ws (st_no rfl rfl rfl ?_)
      refine ws (st_po (po_pick_t rfl rfl) rfl rfl rfl ?_)
      refine s_nil ?_
      refine at_then_wp ?_
      refine r_cond_t rfl rfl ?_
      refine r_exit ?_
      refine at_then_exit ?_
      refine at_block_here ?_
      refine at_then_wp ?_
      refine r_reg ?_
      refine ws (st_po (po_add' rfl rfl (by omega) (by omega)) rfl rfl rfl ?_)
      refine ws (st_po (po_move rfl) rfl rfl rfl ?_)
      refine s_nil ?_
      exact at_again (k + 1) (And.intro rfl (trivial)) (And.intro rfl (And.intro rfl (And.intro rfl (And.intro rfl (And.intro rfl (And.intro rfl (And.intro rfl (trivial)))))))) (by omega) (by omega) ent
    · intro hlt
      refine r_exit ?_
      refine at_then_exit ?_
      refine at_then_exit ?_
      refine at_block_here ?_
      refine at_then_wp ?_
      refine r_seq ?_
      refine r_reg ?_
      refine ws (st_po (po_assign rfl) rfl rfl rfl ?_)
      refine s_nil ?_
      refine at_then_wp ?_
      refine r_seq ?_
      refine r_seq ?_
      refine r_reg ?_
      refine ws (st_po (po_move rfl) rfl rfl rfl ?_)
      refine ws (st_po (po_len rfl (by exact fc_slice_136_4_1)) rfl rfl rfl ?_)
      refine ws (st_po (po_move rfl) rfl rfl rfl ?_)
      refine s_nil ?_
      refine at_then_wp ?_
      refine r_block ?_
      refine r_loop (S := Nat) (fun i => [(15, .slice none 0 0), (67, .int .i64 i)]) [(0, _), (1, _), (2, _), (65, _), (66, _)] (fun i => [Sl eT v28 [], F]) (fun i => i = 0) (fun i => 0) (0) (And.intro rfl (And.intro rfl (And.intro rfl (And.intro rfl (And.intro rfl (trivial)))))) (And.intro rfl (And.intro rfl (trivial))) (rfl) ent ?_
      rintro i hi
      try dsimp only
      refine r_seq ?_
      refine r_reg ?_
      refine ws (st_po (po_lt rfl rfl) rfl rfl rfl ?_)
      refine s_nil ?_
      refine at_then_wp ?_
      refine r_seq ?_
      first | refine r_dec_f rfl (by subst hi; simp) ?_ | refine r_nd_f rfl (by subst hi; simp) ?_ | refine r_cond_f rfl (by subst hi; simp) ?_
      refine r_exit ?_
      refine at_then_exit ?_
      refine at_then_exit ?_
      refine at_block_here ?_
      refine at_then_wp ?_
      refine r_seq ?_
      refine r_reg ?_
      refine ws (st_po (po_move rfl) rfl rfl rfl ?_)
      refine ws (st_po (po_assign rfl) rfl rfl rfl ?_)
      refine s_nil ?_
      refine at_then_wp ?_
      refine r_ret ?_
      have e : [] = cellsN w h s := by rw [cellsN, hsz]; rfl
      subst hi
      refine at_ret1 rfl (rv_tmp rfl) ⟨_, (by rw [← e]), ?_⟩
      try dsimp only [List.cons_append, List.nil_append, GridS.l, GridS.p]
      exact ent
end Hd
end
section
namespace Hd
set_option maxRecDepth 100000
open Go

theorem cells_len (w h s : Int) : (cellsN w h s).length ≤ 256 := by
  have hz := size_le w h s
  have hn : (sizeN w h s).1 * (sizeN w h s).2 ≤ 256 := Int.le_trans (Int.mul_le_mul hz.1.2 hz.2.2 hz.2.1 (by omega)) (by omega)
  have := cellsTo_len w h s ((sizeN w h s).1 * (sizeN w h s).2).toNat
  unfold cellsN; omega
/-- 11.1: those of them that are no walls -/
def nodesN (w h : Int) (c : List Int) (s : Int) : List Int := (cellsN w h s).filter fun i => decide (openN c i)
theorem nodes_len (w h : Int) (c : List Int) (s : Int) : (nodesN w h c s).length ≤ 256 := Nat.le_trans (List.length_filter_le _ _) (cells_len w h s)
theorem filter_snoc {α : Type} (p : α → Bool) (l : List α) (k : Nat) (h : k < l.length) : (l.take (k + 1)).filter p = (l.take k).filter p ++ if p l[k] = true then [l[k]] else [] := by
  rw [take_snoc l k h, List.filter_append]
  congr 1
  by_cases e : p l[k] = true <;> simp [e]

theorem border_Nodes (s : GridS) (i : Int) (hc : Bytes s.c) : Spec PP 41 #[s.p, .int .i64 i] s.l (fun v M => M = s.l ++ [Sl eI v (nodesN s.w s.h s.c i)]) := by
  have hcl := cells_len s.w s.h i
  refine spec_of (Go.Proofs.Tryz.func41) rfl rfl rfl (by exact fc_enters_41) ?_
  intro g F
  try dsimp only [List.cons_append, List.nil_append, GridS.l, GridS.p]
  refine r_seq ?_
  refine r_reg ?_
  refine ws (st_po (po_assign rfl) rfl rfl rfl ?_)
  refine s_nil ?_
  refine at_then_wp ?_
  refine r_seq ?_
  refine r_reg ?_
  refine ws (st_po (po_move rfl) rfl rfl rfl ?_)
  refine ws (st_call (co_fn rfl rfl) (grid_Size s) (by infer_instance) rfl rfl rfl ?_)
  rintro v12 _ ⟨rfl, rfl⟩
  try dsimp only [List.cons_append, List.nil_append, GridS.l, GridS.p]
  refine ws (st_po (po_move rfl) rfl rfl rfl ?_)
  refine ws (st_po (po_extract rfl rfl) rfl rfl rfl ?_)
  refine ws (st_po (po_extract rfl rfl) rfl rfl rfl ?_)
  refine ws (st_po (po_assign rfl) rfl rfl rfl ?_)
  refine ws (st_po (po_assign rfl) rfl rfl rfl ?_)
  refine s_nil ?_
  refine at_then_wp ?_
  refine r_seq ?_
  refine r_reg ?_
  refine ws (st_po (po_assign rfl) rfl rfl rfl ?_)
  refine s_nil ?_
  refine at_then_wp ?_
  refine r_seq ?_
  refine r_seq ?_
  refine r_reg ?_
  refine ws (st_po (po_move rfl) rfl rfl rfl ?_)
  refine ws (st_po (po_move rfl) rfl rfl rfl ?_)
  refine ws (st_po (po_move rfl) rfl rfl rfl ?_)
  refine ws (st_call (co_fn rfl rfl) (border_Cells s.w s.h i) (by infer_instance) rfl rfl rfl ?_)
  rintro v18 _ rfl
  try dsimp only [List.cons_append, List.nil_append, GridS.l, GridS.p]
  refine ws (st_po (po_len rfl (by exact fc_slice_35_3_1)) rfl rfl rfl ?_)
  refine ws (st_po (po_move rfl) rfl rfl rfl ?_)
  refine s_nil ?_
  refine at_then_wp ?_
  refine r_block ?_
  refine r_loop (S := Nat × Value × List Int) (fun ⟨k, ov, xs⟩ => [(7, ov), (20, .int .i64 k)]) [(0, _), (18, _), (19, _)] (fun ⟨k, ov, xs⟩ => [Blk s.b 81 [.int .i64 s.w, .int .i64 s.h, s.cv, .int .i64 s.ep, s.vv], Sl eB s.cv s.c, Sl eL s.vv s.vs, Sl eI v18 (cellsN s.w s.h i), Sl eI ov xs, F]) (fun ⟨k, ov, xs⟩ => k ≤ (cellsN s.w s.h i).length ∧ xs = ((cellsN s.w s.h i).take k).filter fun i => decide (openN s.c i)) (fun ⟨k, ov, xs⟩ => (cellsN s.w s.h i).length - k) ((0, .slice none 0 0, [])) (And.intro rfl (And.intro rfl (And.intro rfl (trivial)))) (And.intro rfl (And.intro rfl (trivial))) (⟨by omega, rfl⟩) ent ?_
  rintro ⟨k, ov, xs⟩ ⟨hk, hxs⟩
  try dsimp only
  have hxl : xs.length ≤ 256 := by rw [hxs]; exact Nat.le_trans (List.length_filter_le _ _) (Nat.le_trans (List.length_take_le _ _) (by omega))
  refine r_seq ?_
  refine r_reg ?_
  refine ws (st_po (po_lt rfl rfl) rfl rfl rfl ?_)
  refine s_nil ?_
  refine at_then_wp ?_
  refine r_seq ?_
  first | refine r_cond_not rfl ?_ ?_ | refine r_cond_dec rfl ?_ ?_ | refine r_cond rfl ?_ ?_
  · intro hlt
    refine r_skip ?_
    refine at_then_wp ?_
    refine r_seq ?_
    refine r_block ?_
    refine r_seq ?_
    refine r_reg ?_
    refine ws (st_po (po_iaddr rfl rfl (by exact fc_slice_35_3_1) (by first | omega | (simp only [List.length_nil, List.length_cons, List.length_append, List.length_replicate, List.length_set, List.length_map, List.length_take, List.length_drop]; omega)) (by first | omega | (simp only [List.length_nil, List.length_cons, List.length_append, List.length_replicate, List.length_set, List.length_map, List.length_take, List.length_drop]; omega))) rfl rfl rfl ?_)
    refine ws (st_po (po_load_sl rfl (List.getElem?_eq_getElem (by first | omega | (simp only [List.length_nil, List.length_cons, List.length_append, List.length_replicate, List.length_set, List.length_map, List.length_take, List.length_drop]; omega))) (by exact fc_flat_3) (by rfl)) rfl rfl rfl ?_)
    refine ws (st_po (po_assign rfl) rfl rfl rfl ?_)
    refine s_nil ?_
    refine at_then_wp ?_
    refine r_seq ?_
    refine r_reg ?_
    refine ws (st_po (po_move rfl) rfl rfl rfl ?_)
    refine ws (st_po (po_move rfl) rfl rfl rfl ?_)
    refine ws (st_call (co_fn rfl rfl) (border_open s _ hc) (by infer_instance) rfl rfl rfl ?_)
    rintro v26 _ ⟨rfl, rfl⟩
    try dsimp only [List.cons_append, List.nil_append, GridS.l, GridS.p]
    refine s_nil ?_
    refine at_then_wp ?_
    first | refine r_cond_not rfl ?_ ?_ | refine r_cond_dec rfl ?_ ?_ | refine r_cond rfl ?_ ?_
    · intro ho
      refine r_reg ?_
      refine ws (st_po (po_move rfl) rfl rfl rfl ?_)
      refine ws (st_po (po_move rfl) rfl rfl rfl ?_)
      refine ws (st_xo (xo_bslice eI [_] rfl (by exact fc_slice_35_3_1) (by exact fc_elem_3_1_8) ⟨rfl, rfl, trivial⟩ rfl (by decide)) rfl rfl rfl ?_)
      rintro v29 _ rfl
      refine ws (st_xo (xo_append rfl rfl (by exact fc_slice_35_3_1) (by exact fc_slice_35_3_1) (by exact fc_elem_3_1_8) (by first | omega | (simp only [List.length_nil, List.length_cons, List.length_append, List.length_replicate, List.length_set, List.length_map, List.length_take, List.length_drop]; omega)) (by first | omega | (simp only [List.length_nil, List.length_cons, List.length_append, List.length_replicate, List.length_set, List.length_map, List.length_take, List.length_drop]; omega))) rfl rfl rfl ?_)
      rintro v30 _ rfl
      refine ws (st_po (po_assign rfl) rfl rfl rfl ?_)
      refine s_nil ?_
      refine at_block_normal ?_
      refine at_then_wp ?_
      refine r_reg ?_
      refine ws (st_po (po_add' rfl rfl (by omega) (by omega)) rfl rfl rfl ?_)
      refine ws (st_po (po_move rfl) rfl rfl rfl ?_)
      refine s_nil ?_
      simp only [Int.toNat_natCast]
      exact at_again ((k + 1, v30, xs ++ [(cellsN s.w s.h i)[k]'(by omega)])) (And.intro rfl (And.intro rfl (trivial))) (And.intro rfl (And.intro rfl (And.intro rfl (trivial)))) (⟨by omega, by rw [filter_snoc _ _ k (by omega), if_pos (by simpa using ho), hxs]⟩) (by omega) ent
    · intro ho
      refine r_skip ?_
      refine at_block_normal ?_
      refine at_then_wp ?_
      refine r_reg ?_
      refine ws (st_po (po_add' rfl rfl (by omega) (by omega)) rfl rfl rfl ?_)
      refine ws (st_po (po_move rfl) rfl rfl rfl ?_)
      refine s_nil ?_
      exact at_again ((k + 1, ov, xs)) (And.intro rfl (And.intro rfl (trivial))) (And.intro rfl (And.intro rfl (And.intro rfl (trivial)))) (⟨by omega, by rw [filter_snoc _ _ k (by omega), if_neg (by simpa using ho), hxs, List.append_nil]⟩) (by omega) ent
  · intro hlt
    refine r_exit ?_
    refine at_then_exit ?_
    refine at_then_exit ?_
    refine at_block_here ?_
    refine at_then_wp ?_
    refine r_seq ?_
    refine r_reg ?_
    refine ws (st_po (po_move rfl) rfl rfl rfl ?_)
    refine ws (st_po (po_assign rfl) rfl rfl rfl ?_)
    refine s_nil ?_
    refine at_then_wp ?_
    refine r_ret ?_
    have e : xs = nodesN s.w s.h s.c i := by rw [hxs, nodesN, List.take_of_length_le (by omega)]
    subst e
    refine at_ret1 rfl (rv_tmp rfl) ⟨_, rfl, ?_⟩
    try dsimp only [List.cons_append, List.nil_append, GridS.l, GridS.p]
    exact ent

/-- 11.2: the ways from a cell into other sectors -/
def crossTo (w h : Int) (c : List Int) (cell : Int) (k : Nat) : List Edg := (List.range k).flatMap fun (j : Nat) => if 0 ≤ overN w h cell j ∧ openN c (overN w h cell j) then [⟨overN w h cell j, costN c (overN w h cell j)⟩] else []
theorem crossTo_succ (w h : Int) (c : List Int) (cell : Int) (k : Nat) : crossTo w h c cell (k + 1) = crossTo w h c cell k ++ if 0 ≤ overN w h cell k ∧ openN c (overN w h cell k) then [⟨overN w h cell k, costN c (overN w h cell k)⟩] else [] := by simp [crossTo, List.range_succ]
theorem crossTo_len (w h : Int) (c : List Int) (cell : Int) : ∀ k : Nat, (crossTo w h c cell k).length ≤ k
  | 0 => by simp [crossTo]
  | k + 1 => by
    rw [crossTo_succ, List.length_append]
    have := crossTo_len w h c cell k
    split <;> simp <;> omega
def crossN (w h : Int) (c : List Int) (cell : Int) : List Edg := if openN c cell then crossTo w h c cell 4 else []

theorem border_Cross (s : GridS) (i : Int) (hc : Bytes s.c) : Spec PP 42 #[s.p, .int .i64 i] s.l (fun v M => M = s.l ++ [Sl eE v (crossN s.w s.h s.c i)]) := by
  refine spec_of (Go.Proofs.Tryz.func42) rfl rfl rfl (by exact fc_enters_42) ?_
  intro g F
  try dsimp only [List.cons_append, List.nil_append, GridS.l, GridS.p]
  refine r_seq ?_
  refine r_reg ?_
  refine ws (st_po (po_assign rfl) rfl rfl rfl ?_)
  refine s_nil ?_
  refine at_then_wp ?_
  refine r_seq ?_
  refine r_reg ?_
  refine ws (st_po (po_move rfl) rfl rfl rfl ?_)
  refine ws (st_call (co_fn rfl rfl) (grid_Size s) (by infer_instance) rfl rfl rfl ?_)
  rintro v13 _ ⟨rfl, rfl⟩
  try dsimp only [List.cons_append, List.nil_append, GridS.l, GridS.p]
  refine ws (st_po (po_move rfl) rfl rfl rfl ?_)
  refine ws (st_po (po_extract rfl rfl) rfl rfl rfl ?_)
  refine ws (st_po (po_extract rfl rfl) rfl rfl rfl ?_)
  refine ws (st_po (po_assign rfl) rfl rfl rfl ?_)
  refine ws (st_po (po_assign rfl) rfl rfl rfl ?_)
  refine s_nil ?_
  refine at_then_wp ?_
  refine r_seq ?_
  refine r_seq ?_
  refine r_reg ?_
  refine ws (st_po (po_move rfl) rfl rfl rfl ?_)
  refine ws (st_po (po_move rfl) rfl rfl rfl ?_)
  refine ws (st_call (co_fn rfl rfl) (border_open s i hc) (by infer_instance) rfl rfl rfl ?_)
  rintro v18 _ ⟨rfl, rfl⟩
  try dsimp only [List.cons_append, List.nil_append, GridS.l, GridS.p]
  refine ws (st_po (po_not rfl) rfl rfl rfl ?_)
  refine s_nil ?_
  refine at_then_wp ?_
  first | refine r_cond_not rfl ?_ ?_ | refine r_cond_dec rfl ?_ ?_ | refine r_cond rfl ?_ ?_
  · intro ho
    refine r_seq ?_
    refine r_reg ?_
    refine ws (st_po (po_assign rfl) rfl rfl rfl ?_)
    refine s_nil ?_
    refine at_then_wp ?_
    refine r_ret ?_
    refine at_then_ret ?_
    have e : [] = crossN s.w s.h s.c i := by rw [crossN, if_neg ho]
    refine at_ret1 rfl (rv_tmp rfl) ⟨_, (by rw [← e]), ?_⟩
    try dsimp only [List.cons_append, List.nil_append, GridS.l, GridS.p]
    exact ent
  · intro ho
    refine r_skip ?_
    refine at_then_wp ?_
    refine r_seq ?_
    refine r_reg ?_
    refine ws (st_po (po_assign rfl) rfl rfl rfl ?_)
    refine s_nil ?_
    refine at_then_wp ?_
    refine r_seq ?_
    refine r_seq ?_
    refine r_reg ?_
    refine ws (st_call (co_fn rfl rfl) (border_sides) (by infer_instance) rfl rfl rfl ?_)
    rintro v20 _ ⟨rfl, rfl⟩
    try dsimp only [List.cons_append, List.nil_append, GridS.l, GridS.p]
    refine ws (st_po (po_move rfl) rfl rfl rfl ?_)
    refine s_nil ?_
    refine at_then_wp ?_
    refine r_block ?_
    refine r_loop (S := Nat × Value × List Edg) (fun ⟨k, ov, xs⟩ => [(7, ov), (21, .int .i64 k)]) [(0, _), (1, _), (5, _), (6, _), (20, _)] (fun ⟨k, ov, xs⟩ => [Blk s.b 81 [.int .i64 s.w, .int .i64 s.h, s.cv, .int .i64 s.ep, s.vv], Sl eB s.cv s.c, Sl eL s.vv s.vs, Sl eE ov xs, F]) (fun ⟨k, ov, xs⟩ => k ≤ 4 ∧ xs = crossTo s.w s.h s.c i k) (fun ⟨k, ov, xs⟩ => 4 - k) ((0, .slice none 0 0, [])) (And.intro rfl (And.intro rfl (And.intro rfl (And.intro rfl (And.intro rfl (trivial)))))) (And.intro rfl (And.intro rfl (trivial))) (⟨by omega, rfl⟩) ent ?_
    rintro ⟨k, ov, xs⟩ ⟨hk, hxs⟩
    try dsimp only
    have hxl := crossTo_len s.w s.h s.c i k
    rw [← hxs] at hxl
    refine r_seq ?_
    refine r_reg ?_
    refine ws (st_po (po_lt rfl rfl) rfl rfl rfl ?_)
    refine s_nil ?_
    refine at_then_wp ?_
    refine r_seq ?_
    first | refine r_cond_not rfl ?_ ?_ | refine r_cond_dec rfl ?_ ?_ | refine r_cond rfl ?_ ?_
    · intro hlt
      refine r_skip ?_
      refine at_then_wp ?_
      refine r_seq ?_
      refine r_block ?_
      refine r_seq ?_
      refine r_reg ?_
      refine ws (st_po (po_index_arr rfl rfl (by exact fc_arr_107_4_3_1) (by exact fc_flat_3) (by omega) (by omega) (nth_sides (by omega))) rfl rfl rfl ?_)
      refine ws (st_po (po_assign rfl) rfl rfl rfl ?_)
      refine s_nil ?_
      refine at_then_wp ?_
      refine r_seq ?_
      refine r_reg ?_
      refine ws (st_po (po_move rfl) rfl rfl rfl ?_)
      refine ws (st_po (po_move rfl) rfl rfl rfl ?_)
      refine ws (st_po (po_move rfl) rfl rfl rfl ?_)
      refine ws (st_po (po_move rfl) rfl rfl rfl ?_)
      refine ws (st_call (co_fn rfl rfl) (border_over s.w s.h i k) (by infer_instance) rfl rfl rfl ?_)
      rintro v28 _ ⟨rfl, rfl⟩
      try dsimp only [List.cons_append, List.nil_append, GridS.l, GridS.p]
      refine ws (st_po (po_assign rfl) rfl rfl rfl ?_)
      refine s_nil ?_
      refine at_then_wp ?_
      refine r_seq ?_
      refine r_reg ?_
      refine ws (st_po (po_move rfl) rfl rfl rfl ?_)
      refine ws (st_po (po_ge rfl rfl) rfl rfl rfl ?_)
      by_cases h1 : 0 ≤ overN s.w s.h i k
      · skip
        refine ws (st_po (po_bt (po_move rfl) (decide_eq_true h1)) rfl rfl rfl ?_)
        refine ws (st_po (po_move rfl) rfl rfl rfl ?_)
        refine ws (st_po (po_move rfl) rfl rfl rfl ?_)
        refine ws (st_call (co_fn rfl rfl) (border_open s (overN s.w s.h i k) hc) (by infer_instance) rfl rfl rfl ?_)
        rintro v34 _ ⟨rfl, rfl⟩
        try dsimp only [List.cons_append, List.nil_append, GridS.l, GridS.p]
        refine ws (st_po (po_pick_t rfl rfl) rfl rfl rfl ?_)
        refine s_nil ?_
        refine at_then_wp ?_
        first | refine r_cond_not rfl ?_ ?_ | refine r_cond_dec rfl ?_ ?_ | refine r_cond rfl ?_ ?_
        · intro h2
          refine r_reg ?_
          refine ws (st_po (po_move rfl) rfl rfl rfl ?_)
          refine ws (st_po (po_move rfl) rfl rfl rfl ?_)
          refine ws (st_po (po_move rfl) rfl rfl rfl ?_)
          refine ws (st_po (po_move rfl) rfl rfl rfl ?_)
          refine ws (st_call (co_fn rfl rfl) (grid_Cost s (overN s.w s.h i k) hc) (by infer_instance) rfl rfl rfl ?_)
          rintro v40 _ ⟨rfl, rfl⟩
          try dsimp only [List.cons_append, List.nil_append, GridS.l, GridS.p]
          refine ws (st_po (po_build1 rfl (by exact fc_zero_76) (by exact fc_places_76_0_1) (by exact fc_info_76) rfl) rfl rfl rfl ?_)
          refine ws (st_xo (xo_bslice eE [⟨overN s.w s.h i k, costN s.c (overN s.w s.h i k)⟩] rfl (by exact fc_slice_73_76_2) (by exact fc_elem_76_2_16) ⟨rfl, rfl, trivial⟩ rfl (by decide)) rfl rfl rfl ?_)
          rintro v42 _ rfl
          refine ws (st_xo (xo_append rfl rfl (by exact fc_slice_73_76_2) (by exact fc_slice_73_76_2) (by exact fc_elem_76_2_16) (by first | omega | (simp only [List.length_nil, List.length_cons, List.length_append, List.length_replicate, List.length_set, List.length_map, List.length_take, List.length_drop]; omega)) (by first | omega | (simp only [List.length_nil, List.length_cons, List.length_append, List.length_replicate, List.length_set, List.length_map, List.length_take, List.length_drop]; omega))) rfl rfl rfl ?_)
          rintro v43 _ rfl
          refine ws (st_po (po_assign rfl) rfl rfl rfl ?_)
          refine s_nil ?_
          refine at_block_normal ?_
          refine at_then_wp ?_
          refine r_reg ?_
          refine ws (st_po (po_add' rfl rfl (by omega) (by omega)) rfl rfl rfl ?_)
          refine ws (st_po (po_move rfl) rfl rfl rfl ?_)
          refine s_nil ?_
          exact at_again ((k + 1, v43, xs ++ [⟨overN s.w s.h i k, costN s.c (overN s.w s.h i k)⟩])) (And.intro rfl (And.intro rfl (trivial))) (And.intro rfl (And.intro rfl (And.intro rfl (And.intro rfl (And.intro rfl (trivial)))))) (⟨by omega, by rw [crossTo_succ, if_pos ⟨h1, h2⟩, hxs]⟩) (by omega) ent
        · intro h2
          refine r_skip ?_
          refine at_block_normal ?_
          refine at_then_wp ?_
          refine r_reg ?_
          refine ws (st_po (po_add' rfl rfl (by omega) (by omega)) rfl rfl rfl ?_)
          refine ws (st_po (po_move rfl) rfl rfl rfl ?_)
          refine s_nil ?_
          exact at_again ((k + 1, ov, xs)) (And.intro rfl (And.intro rfl (trivial))) (And.intro rfl (And.intro rfl (And.intro rfl (And.intro rfl (And.intro rfl (trivial)))))) (⟨by omega, by rw [crossTo_succ, if_neg (fun h => h2 h.2), hxs, List.append_nil]⟩) (by omega) ent
      · skip
        refine ws (st_po (po_bf (po_move rfl) (decide_eq_false h1)) rfl rfl rfl ?_)
        refine ws (st_no rfl rfl rfl ?_)
        refine ws (st_no rfl rfl rfl ?_)
        refine ws (st_no rfl rfl rfl ?_)
        refine ws (st_po (po_pick_f rfl rfl) rfl rfl rfl ?_)
        refine s_nil ?_
        refine at_then_wp ?_
        refine r_cond_f rfl rfl ?_
        refine r_skip ?_
        refine at_block_normal ?_
        refine at_then_wp ?_
        refine r_reg ?_
        refine ws (st_po (po_add' rfl rfl (by omega) (by omega)) rfl rfl rfl ?_)
        refine ws (st_po (po_move rfl) rfl rfl rfl ?_)
        refine s_nil ?_
        exact at_again ((k + 1, ov, xs)) (And.intro rfl (And.intro rfl (trivial))) (And.intro rfl (And.intro rfl (And.intro rfl (And.intro rfl (And.intro rfl (trivial)))))) (⟨by omega, by rw [crossTo_succ, if_neg (fun h => h1 h.1), hxs, List.append_nil]⟩) (by omega) ent
    · intro hlt
      refine r_exit ?_
      refine at_then_exit ?_
      refine at_then_exit ?_
      refine at_block_here ?_
      refine at_then_wp ?_
      refine r_seq ?_
      refine r_reg ?_
      refine ws (st_po (po_move rfl) rfl rfl rfl ?_)
      refine ws (st_po (po_assign rfl) rfl rfl rfl ?_)
      refine s_nil ?_
      refine at_then_wp ?_
      refine r_ret ?_
      have e : xs = crossN s.w s.h s.c i := by rw [hxs, crossN, if_pos ho, show k = 4 by omega]
      subst e
      refine at_ret1 rfl (rv_tmp rfl) ⟨_, rfl, ?_⟩
      try dsimp only [List.cons_append, List.nil_append, GridS.l, GridS.p]
      exact ent
end Hd
end
section
namespace Hd
def lessE (a b : Ent) : Prop := a.key < b.key ∨ (a.key = b.key ∧ a.item < b.item)
instance (a b : Ent) : Decidable (lessE a b) := by unfold lessE; infer_instance
def leE (a b : Ent) : Prop := ¬ lessE b a
theorem leE_refl (a : Ent) : leE a a := by unfold leE lessE; omega
theorem leE_trans {a b c : Ent} (h1 : leE a b) (h2 : leE b c) : leE a c := by unfold leE lessE at *; omega
theorem leE_of {a b : Ent} (h : lessE a b) : leE a b := by unfold leE lessE at *; omega
def lg (l : List Ent) (i : Nat) : Ent := l.getD i ⟨0, 0⟩
theorem lg_get {l : List Ent} {i : Nat} (h : i < l.length) : lg l i = l[i] := by simp [lg, h]
def swp (l : List Ent) (i p : Nat) : List Ent := (l.set i (lg l p)).set p (lg l i)
theorem swp_len (l : List Ent) (i p : Nat) : (swp l i p).length = l.length := by simp [swp]
theorem swp_get {l : List Ent} {i p j : Nat} (hi : i < l.length) (hp : p < l.length) : lg (swp l i p) j = if j = p then lg l i else if j = i then lg l p else lg l j := by
  unfold swp lg
  rw [List.getD_eq_getElem?_getD, List.getElem?_set, List.getElem?_set]
  by_cases e : p = j
  · subst e; simp [hp]
  · have e' : ¬ j = p := fun x => e x.symm
    by_cases e2 : i = j
    · subst e2; simp [e, e', hi]
    · have e2' : ¬ j = i := fun x => e2 x.symm
      simp [e, e', e2, e2']
theorem swp_perm {l : List Ent} {i p : Nat} (hi : i < l.length) (hp : p < l.length) : (swp l i p).Perm l := by
  unfold swp
  rw [lg_get hi, lg_get hp]
  exact List.set_set_perm hi hp

def HpL (l : List Ent) : Prop := ∀ j, 0 < j → j < l.length → leE (lg l ((j - 1) / 2)) (lg l j)
def UpI (l : List Ent) (i : Nat) : Prop := (∀ j, 0 < j → j < l.length → j ≠ i → leE (lg l ((j - 1) / 2)) (lg l j)) ∧ (0 < i → ∀ j, 0 < j → j < l.length → (j - 1) / 2 = i → leE (lg l ((i - 1) / 2)) (lg l j))
theorem up_step {l : List Ent} {i : Nat} (h : UpI l i) (h0 : 0 < i) (hi : i < l.length) (hl : lessE (lg l i) (lg l ((i - 1) / 2))) : UpI (swp l i ((i - 1) / 2)) ((i - 1) / 2) := by
  have hp : (i - 1) / 2 < l.length := by omega
  have hpi : (i - 1) / 2 < i := by omega
  refine ⟨fun j j0 jl jp => ?_, fun p0 j j0 jl jp => ?_⟩
  · rw [swp_len] at jl
    rw [swp_get hi hp, swp_get hi hp, if_neg jp]
    by_cases e : j = i
    · subst e; rw [if_pos rfl, if_pos rfl]; exact leE_of hl
    · rw [if_neg e]
      by_cases e2 : (j - 1) / 2 = (i - 1) / 2
      · rw [if_pos e2]; have := h.1 j j0 jl e; rw [e2] at this; exact leE_trans (leE_of hl) this
      · rw [if_neg e2]
        by_cases e3 : (j - 1) / 2 = i
        · rw [if_pos e3]; exact h.2 h0 j j0 jl e3
        · rw [if_neg e3]; exact h.1 j j0 jl e
  · rw [swp_len] at jl
    have h1 := h.1 ((i - 1) / 2) p0 hp (by omega)
    rw [swp_get hi hp, swp_get hi hp, if_neg (by omega), if_neg (by omega), if_neg (by omega)]
    by_cases e : j = i
    · rw [if_pos e]; exact h1
    · rw [if_neg e]; have h2 := h.1 j j0 jl e; rw [jp] at h2; exact leE_trans h1 h2
theorem up_end {l : List Ent} {i : Nat} (h : UpI l i) (he : i = 0 ∨ ¬ lessE (lg l i) (lg l ((i - 1) / 2))) : HpL l := fun j j0 jl => by
  by_cases e : j = i
  · subst e; rcases he with he | he
    · omega
    · exact he
  · exact h.1 j j0 jl e
theorem up_start {l : List Ent} (h : HpL l) (e : Ent) : UpI (l ++ [e]) l.length := by
  refine ⟨fun j j0 jl jn => ?_, fun i0 j j0 jl jp => ?_⟩
  · simp at jl
    have hj : j < l.length := by omega
    have hp : (j - 1) / 2 < l.length := by omega
    have := h j j0 hj
    rw [lg_get hj, lg_get hp] at this
    rw [lg_get (by simp; omega), lg_get (by simp; omega), List.getElem_append_left hp, List.getElem_append_left hj]; exact this
  · simp at jl; omega

def DnI (l : List Ent) (i : Nat) : Prop := (∀ j, 0 < j → j < l.length → (j - 1) / 2 ≠ i → leE (lg l ((j - 1) / 2)) (lg l j)) ∧ (0 < i → ∀ j, 0 < j → j < l.length → (j - 1) / 2 = i → leE (lg l ((i - 1) / 2)) (lg l j))
theorem dn_step {l : List Ent} {i m : Nat} (h : DnI l i) (h0 : 0 < m) (hm : m < l.length) (hp : (m - 1) / 2 = i) (hl : lessE (lg l m) (lg l i)) (hle : ∀ j, 0 < j → j < l.length → (j - 1) / 2 = i → leE (lg l m) (lg l j)) : DnI (swp l i m) m := by
  have hi : i < l.length := by omega
  refine ⟨fun j j0 jl jp => ?_, fun m0 j j0 jl jp => ?_⟩
  · rw [swp_len] at jl
    rw [swp_get hi hm, swp_get hi hm, if_neg jp]
    by_cases e : (j - 1) / 2 = i
    · rw [if_pos e]
      by_cases e2 : j = m
      · rw [if_pos e2]; exact leE_of hl
      · rw [if_neg e2, if_neg (by omega)]; exact hle j j0 jl e
    · rw [if_neg e, if_neg (by omega)]
      by_cases e2 : j = i
      · rw [if_pos e2, e2]; exact h.2 (by omega) m h0 hm hp
      · rw [if_neg e2]; exact h.1 j j0 jl e
  · rw [swp_len] at jl
    rw [swp_get hi hm, swp_get hi hm, hp, if_neg (by omega), if_pos rfl, if_neg (by omega), if_neg (by omega)]
    have := h.1 j j0 jl (by omega)
    rw [jp] at this; exact this
theorem dn_end {l : List Ent} {i : Nat} (h : DnI l i) (hle : ∀ j, 0 < j → j < l.length → (j - 1) / 2 = i → leE (lg l i) (lg l j)) : HpL l := fun j j0 jl => by
  by_cases e : (j - 1) / 2 = i
  · rw [e]; exact hle j j0 jl e
  · exact h.1 j j0 jl e
theorem heap_min {l : List Ent} (h : HpL l) : ∀ j, j < l.length → leE (lg l 0) (lg l j) := by
  intro j
  induction j using Nat.strongRecOn with
  | _ j ih =>
    intro hj
    by_cases e : j = 0
    · subst e; exact leE_refl _
    · exact leE_trans (ih ((j - 1) / 2) (by omega) (by omega)) (h j (by omega) hj)
/-- the last one goes to the first one's place -/
theorem dn_start {l : List Ent} (h : HpL l) (hl : 0 < l.length) : DnI ((l.set 0 (lg l (l.length - 1))).take (l.length - 1)) 0 := by
  refine ⟨fun j j0 jl jp => ?_, fun i0 => by omega⟩
  simp at jl
  have e : ∀ k, 0 < k → k < l.length - 1 → lg ((l.set 0 (lg l (l.length - 1))).take (l.length - 1)) k = lg l k := fun k k0 kl => by
    rw [lg_get (by simp; omega), List.getElem_take, List.getElem_set, if_neg (by omega)]; exact (lg_get (by omega)).symm
  rw [e j j0 (by omega), e _ (by omega) (by omega)]
  exact h j j0 (by omega)
theorem pop_perm {l : List Ent} (hl : 0 < l.length) : l.Perm (lg l 0 :: (l.set 0 (lg l (l.length - 1))).take (l.length - 1)) := by
  cases l with
  | nil => simp at hl
  | cons x xs =>
    rcases List.eq_nil_or_concat xs with e | ⟨ys, y, e⟩
    · subst e; simp [lg]
    · subst e
      have e1 : lg (x :: ys.concat y) ((x :: ys.concat y).length - 1) = y := by rw [lg_get (by simp)]; simp
      rw [e1]
      simp [lg]
end Hd
end
section
namespace Hd
set_option maxRecDepth 100000
open Go

abbrev entV (a : Ent) : Value := .agg #[.int .i64 a.key, .int .i64 a.item]
theorem ent_less (a b : Ent) : Spec PP 147 #[entV a, entV b] [] (fun v M => v = .bool (decide (lessE a b)) ∧ M = []) := by
  refine spec_of (Go.Proofs.Tryz.func147) rfl rfl rfl (by exact fc_enters_147) ?_
  intro g F
  try dsimp only [List.cons_append, List.nil_append]
  refine r_seq ?_
  refine r_reg ?_
  refine ws (st_xo (xo_box rfl rfl) rfl rfl rfl ?_)
  rintro _ _ ⟨b2, rfl, rfl⟩
  refine ws (st_xo (xo_box rfl rfl) rfl rfl rfl ?_)
  rintro _ _ ⟨b3, rfl, rfl⟩
  refine ws (st_po (po_assign rfl) rfl rfl rfl ?_)
  refine s_nil ?_
  refine at_then_wp ?_
  refine r_seq ?_
  refine r_reg ?_
  refine ws (st_po (po_faddr rfl (by exact fc_field_160_0_0)) rfl rfl rfl ?_)
  refine ws (st_po (po_load rfl (by exact fc_flat_3) (by rfl)) rfl rfl rfl ?_)
  refine ws (st_po (po_faddr rfl (by exact fc_field_160_0_0)) rfl rfl rfl ?_)
  refine ws (st_po (po_load rfl (by exact fc_flat_3) (by rfl)) rfl rfl rfl ?_)
  refine ws (st_po (po_lt rfl rfl) rfl rfl rfl ?_)
  by_cases h1 : a.key < b.key
  · skip
    refine ws (st_po (po_bt (po_move rfl) (decide_eq_true h1)) rfl rfl rfl ?_)
    refine ws (st_no rfl rfl rfl ?_)
    refine ws (st_no rfl rfl rfl ?_)
    refine ws (st_no rfl rfl rfl ?_)
    refine ws (st_no rfl rfl rfl ?_)
    refine ws (st_no rfl rfl rfl ?_)
    refine ws (st_no rfl rfl rfl ?_)
    refine ws (st_no rfl rfl rfl ?_)
    refine ws (st_no rfl rfl rfl ?_)
    refine ws (st_no rfl rfl rfl ?_)
    refine ws (st_no rfl rfl rfl ?_)
    refine ws (st_no rfl rfl rfl ?_)
    refine ws (st_no rfl rfl rfl ?_)
    refine ws (st_po (po_pick_t rfl rfl) rfl rfl rfl ?_)
    refine ws (st_po (po_assign rfl) rfl rfl rfl ?_)
    refine s_nil ?_
    refine at_then_wp ?_
    refine r_ret ?_
    refine at_ret1 rfl (rv_tmp rfl) ⟨_, ⟨by rw [decide_eq_true (.inl h1)], rfl⟩, ?_⟩
    try dsimp only [List.cons_append, List.nil_append]
    exact ent
  · skip
    refine ws (st_po (po_bf (po_move rfl) (decide_eq_false h1)) rfl rfl rfl ?_)
    refine ws (st_po (po_faddr rfl (by exact fc_field_160_0_0)) rfl rfl rfl ?_)
    refine ws (st_po (po_load rfl (by exact fc_flat_3) (by rfl)) rfl rfl rfl ?_)
    refine ws (st_po (po_faddr rfl (by exact fc_field_160_0_0)) rfl rfl rfl ?_)
    refine ws (st_po (po_load rfl (by exact fc_flat_3) (by rfl)) rfl rfl rfl ?_)
    refine ws (st_po (po_eq rfl rfl) rfl rfl rfl ?_)
    by_cases h2 : a.key = b.key
    · skip
      refine ws (st_po (po_bt (po_move rfl) (decide_eq_true h2)) rfl rfl rfl ?_)
      refine ws (st_po (po_faddr rfl (by exact fc_field_160_1_1)) rfl rfl rfl ?_)
      refine ws (st_po (po_load rfl (by exact fc_flat_3) (by rfl)) rfl rfl rfl ?_)
      refine ws (st_po (po_faddr rfl (by exact fc_field_160_1_1)) rfl rfl rfl ?_)
      refine ws (st_po (po_load rfl (by exact fc_flat_3) (by rfl)) rfl rfl rfl ?_)
      refine ws (st_po (po_lt rfl rfl) rfl rfl rfl ?_)
      refine ws (st_po (po_pick_t rfl rfl) rfl rfl rfl ?_)
      refine ws (st_po (po_pick_f rfl rfl) rfl rfl rfl ?_)
      refine ws (st_po (po_assign rfl) rfl rfl rfl ?_)
      refine s_nil ?_
      refine at_then_wp ?_
      refine r_ret ?_
      refine at_ret1 rfl (rv_tmp rfl) ⟨_, ⟨by congr 1; refine decide_eq_decide.2 ?_; unfold lessE; omega, rfl⟩, ?_⟩
      try dsimp only [List.cons_append, List.nil_append]
      exact ent
    · skip
      refine ws (st_po (po_bf (po_move rfl) (decide_eq_false h2)) rfl rfl rfl ?_)
      refine ws (st_no rfl rfl rfl ?_)
      refine ws (st_no rfl rfl rfl ?_)
      refine ws (st_no rfl rfl rfl ?_)
      refine ws (st_no rfl rfl rfl ?_)
      refine ws (st_no rfl rfl rfl ?_)
      refine ws (st_po (po_pick_f rfl rfl) rfl rfl rfl ?_)
      refine ws (st_po (po_pick_f rfl rfl) rfl rfl rfl ?_)
      refine ws (st_po (po_assign rfl) rfl rfl rfl ?_)
      refine s_nil ?_
      refine at_then_wp ?_
      refine r_ret ?_
      refine at_ret1 rfl (rv_tmp rfl) ⟨_, ⟨by rw [decide_eq_false (by unfold lessE; omega)], rfl⟩, ?_⟩
      try dsimp only [List.cons_append, List.nil_append]
      exact ent

theorem less_trans {a b c : Ent} (h1 : lessE a b) (h2 : lessE b c) : lessE a c := by unfold lessE at *; omega
abbrev heapL (b : Nat) (v : Value) (l : List Ent) : List HP := [Blk b 157 [v], Sl eH v l]
abbrev heapLF (F : HP) (b : Nat) (v : Value) (l : List Ent) : List HP := [Blk b 157 [v], Sl eH v l, F]
abbrev heapP (b : Nat) : Value := .pointer (some ⟨b, 0, none⟩)

theorem heap_up (b : Nat) (v : Value) (l : List Ent) (hl : l.length ≤ 2^40) (hi : UpI l (l.length - 1)) : Spec PP 119 #[heapP b] (heapL b v l) (fun r M => ∃ l', r = .tuple #[] ∧ M = heapL b v l' ∧ HpL l' ∧ l'.Perm l) := by
  refine spec_of (Go.Proofs.Tryz.func119) rfl rfl rfl (by exact fc_enters_119) ?_
  intro g F
  try dsimp only [List.cons_append, List.nil_append, heapL, heapLF]
  refine r_seq ?_
  refine r_reg ?_
  refine ws (st_po (po_move rfl) rfl rfl rfl ?_)
  refine ws (st_po (po_nil rfl) rfl rfl rfl ?_)
  refine ws (st_po (po_faddr rfl (by exact fc_field_157_0_0)) rfl rfl rfl ?_)
  refine ws (st_po (po_load rfl (by exact fc_flat_155) (by rfl)) rfl rfl rfl ?_)
  refine ws (st_po (po_len rfl (by exact fc_slice_155_160_2)) rfl rfl rfl ?_)
  refine ws (st_po (po_sub' rfl rfl (by omega) (by omega)) rfl rfl rfl ?_)
  refine ws (st_po (po_assign rfl) rfl rfl rfl ?_)
  refine s_nil ?_
  refine at_then_wp ?_
  refine r_block ?_
  refine r_loop (S := Int × List Ent) (fun ⟨i, l1⟩ => [(2, .int .i64 i)]) [(0, _)] (fun ⟨i, l1⟩ => heapLF F b v l1) (fun ⟨i, l1⟩ => -1 ≤ i ∧ i < l1.length ∧ l1.length = l.length ∧ l1.Perm l ∧ UpI l1 i.toNat ∧ (i = -1 → l.length = 0)) (fun ⟨i, l1⟩ => i.toNat) (((l.length : Int) - 1, l)) (And.intro rfl (trivial)) (And.intro rfl (trivial)) (⟨by omega, by omega, rfl, .rfl, by rw [show ((l.length : Int) - 1).toNat = l.length - 1 by omega]; exact hi, by omega⟩) ent ?_
  rintro ⟨i, l1⟩ ⟨hi1, hi2, hll, hpm, hup, hi0⟩
  try dsimp only [List.cons_append, List.nil_append, heapL, heapLF]
  refine r_seq ?_
  refine r_seq ?_
  refine r_reg ?_
  refine ws (st_po (po_move rfl) rfl rfl rfl ?_)
  refine ws (st_po (po_gt rfl rfl) rfl rfl rfl ?_)
  refine s_nil ?_
  refine at_then_wp ?_
  first | refine r_cond_not rfl ?_ ?_ | refine r_cond_dec rfl ?_ ?_ | refine r_cond rfl ?_ ?_
  · intro hgt
    refine r_skip ?_
    refine at_then_wp ?_
    refine r_block ?_
    refine r_seq ?_
    refine r_reg ?_
    refine ws (st_po (po_move rfl) rfl rfl rfl ?_)
    refine ws (st_po (po_sub' rfl rfl (by omega) (by omega)) rfl rfl rfl ?_)
    refine ws (st_po (po_quo' rfl rfl (by omega) (by omega) (by omega)) rfl rfl rfl ?_)
    refine ws (st_po (po_assign rfl) rfl rfl rfl ?_)
    refine s_nil ?_
    refine at_then_wp ?_
    refine r_seq ?_
    refine r_seq ?_
    refine r_ord [] _ [(0, 1), (1, 1), (2, 1), (3, 0), (4, 1), (5, 0), (6, 0), (7, 1), (8, 1), (9, 1), (10, 0), (11, 1), (12, 0), (13, 0), (14, 2), (15, 1)] fc_mixed (by kernel_rfl) (fun _ h => h) ?_
    refine o_fr rfl (po_move rfl) rfl rfl rfl ?_
    refine o_fr rfl (po_nil rfl) rfl rfl rfl ?_
    refine o_fr rfl (po_faddr rfl (by exact fc_field_157_0_0)) rfl rfl rfl ?_
    refine o_rd rfl (po_load rfl (by exact fc_flat_155) (by rfl)) (by first | exact fun _ h => h | exact ent) rfl rfl rfl ?_
    refine o_fr rfl (po_move rfl) rfl rfl rfl ?_
    refine o_rd rfl (po_iaddr rfl rfl (by exact fc_slice_155_160_2) (by first | omega | (simp only [List.length_nil, List.length_cons, List.length_append, List.length_replicate, List.length_set, List.length_map, List.length_take, List.length_drop]; omega)) (by first | omega | (simp only [List.length_nil, List.length_cons, List.length_append, List.length_replicate, List.length_set, List.length_map, List.length_take, List.length_drop]; omega))) (by first | exact fun _ h => h | exact ent) rfl rfl rfl ?_
    refine o_rd rfl (ld_eH rfl (List.getElem?_eq_getElem (by first | omega | (simp only [List.length_nil, List.length_cons, List.length_append, List.length_replicate, List.length_set, List.length_map, List.length_take, List.length_drop]; omega))) (by exact fc_agg_160_2)) (by first | exact fun _ h => h | exact ent) rfl rfl rfl ?_
    refine o_fr rfl (po_move rfl) rfl rfl rfl ?_
    refine o_fr rfl (po_nil rfl) rfl rfl rfl ?_
    refine o_fr rfl (po_faddr rfl (by exact fc_field_157_0_0)) rfl rfl rfl ?_
    refine o_rd rfl (po_load rfl (by exact fc_flat_155) (by rfl)) (by first | exact fun _ h => h | exact ent) rfl rfl rfl ?_
    refine o_fr rfl (po_move rfl) rfl rfl rfl ?_
    refine o_rd rfl (po_iaddr rfl rfl (by exact fc_slice_155_160_2) (by first | omega | (simp only [List.length_nil, List.length_cons, List.length_append, List.length_replicate, List.length_set, List.length_map, List.length_take, List.length_drop]; omega)) (by first | omega | (simp only [List.length_nil, List.length_cons, List.length_append, List.length_replicate, List.length_set, List.length_map, List.length_take, List.length_drop]; omega))) (by first | exact fun _ h => h | exact ent) rfl rfl rfl ?_
    refine o_rd rfl (ld_eH rfl (List.getElem?_eq_getElem (by first | omega | (simp only [List.length_nil, List.length_cons, List.length_append, List.length_replicate, List.length_set, List.length_map, List.length_take, List.length_drop]; omega))) (by exact fc_agg_160_2)) (by first | exact fun _ h => h | exact ent) rfl rfl rfl ?_
    refine o_st rfl (st_call (co_fn rfl rfl) (ent_less (l1[i.toNat]'(by omega)) (l1[((i - 1) / 2).toNat]'(by omega))) (by infer_instance) rfl rfl rfl ?_)
    rintro v29 _ ⟨rfl, rfl⟩
    try dsimp only [List.cons_append, List.nil_append, heapL, heapLF]
    refine ⟨fun _ => (by first | exact fun _ h => h | exact ent), ?_⟩
    refine o_fr rfl (po_not rfl) rfl rfl rfl ?_
    refine o_nil ?_
    refine at_then_wp ?_
    first | refine r_cond_not rfl ?_ ?_ | refine r_cond_dec rfl ?_ ?_ | refine r_cond rfl ?_ ?_
    · intro hls
      refine r_ret ?_
      refine at_then_ret ?_
      refine at_block_ret ?_
      refine at_then_ret ?_
      refine at_block_ret ?_
      refine at_ret0 rfl  ⟨_, ⟨l1, rfl, rfl, up_end hup (.inr (by rw [lg_get (by omega), lg_get (by omega)]; simp only [show (i.toNat - 1) / 2 = ((i - 1) / 2).toNat by omega]; exact hls)), hpm⟩, ?_⟩
      try dsimp only [List.cons_append, List.nil_append, heapL, heapLF]
      exact ent
    · intro hls
      refine r_skip ?_
      refine at_then_wp ?_
      refine r_seq ?_
      refine r_tree [25, 27] _ 28 fc_mixed (by kernel_rfl) (fun _ h => h) ?_
      refine t_fr (i := 0) (by kernel_rfl) rfl (po_move rfl) rfl rfl rfl ?_
      refine t_fr (i := 1) (by kernel_rfl) rfl (po_nil rfl) rfl rfl rfl ?_
      refine t_fr (i := 2) (by kernel_rfl) rfl (po_faddr rfl (by exact fc_field_157_0_0)) rfl rfl rfl ?_
      refine t_rd (i := 3) (by kernel_rfl) rfl (po_load rfl (by exact fc_flat_155) (by rfl)) (by first | exact fun _ h => h | exact ent) rfl rfl rfl ?_
      refine t_fr (i := 4) (by kernel_rfl) rfl (po_move rfl) rfl rfl rfl ?_
      refine t_fr (i := 5) (by kernel_rfl) rfl (po_move rfl) rfl rfl rfl ?_
      refine t_fr (i := 6) (by kernel_rfl) rfl (po_nil rfl) rfl rfl rfl ?_
      refine t_fr (i := 7) (by kernel_rfl) rfl (po_faddr rfl (by exact fc_field_157_0_0)) rfl rfl rfl ?_
      refine t_rd (i := 8) (by kernel_rfl) rfl (po_load rfl (by exact fc_flat_155) (by rfl)) (by first | exact fun _ h => h | exact ent) rfl rfl rfl ?_
      refine t_fr (i := 9) (by kernel_rfl) rfl (po_move rfl) rfl rfl rfl ?_
      refine t_fr (i := 10) (by kernel_rfl) rfl (po_move rfl) rfl rfl rfl ?_
      refine t_fr (i := 11) (by kernel_rfl) rfl (po_nil rfl) rfl rfl rfl ?_
      refine t_fr (i := 12) (by kernel_rfl) rfl (po_faddr rfl (by exact fc_field_157_0_0)) rfl rfl rfl ?_
      refine t_rd (i := 13) (by kernel_rfl) rfl (po_load rfl (by exact fc_flat_155) (by rfl)) (by first | exact fun _ h => h | exact ent) rfl rfl rfl ?_
      refine t_fr (i := 14) (by kernel_rfl) rfl (po_move rfl) rfl rfl rfl ?_
      refine t_rd (i := 15) (by kernel_rfl) rfl (po_iaddr rfl rfl (by exact fc_slice_155_160_2) (by first | omega | (simp only [List.length_nil, List.length_cons, List.length_append, List.length_replicate, List.length_set, List.length_map, List.length_take, List.length_drop]; omega)) (by first | omega | (simp only [List.length_nil, List.length_cons, List.length_append, List.length_replicate, List.length_set, List.length_map, List.length_take, List.length_drop]; omega))) (by first | exact fun _ h => h | exact ent) rfl rfl rfl ?_
      refine t_rd (i := 16) (by kernel_rfl) rfl (ld_eH rfl (List.getElem?_eq_getElem (by first | omega | (simp only [List.length_nil, List.length_cons, List.length_append, List.length_replicate, List.length_set, List.length_map, List.length_take, List.length_drop]; omega))) (by exact fc_agg_160_2)) (by first | exact fun _ h => h | exact ent) rfl rfl rfl ?_
      refine t_fr (i := 17) (by kernel_rfl) rfl (po_move rfl) rfl rfl rfl ?_
      refine t_fr (i := 18) (by kernel_rfl) rfl (po_nil rfl) rfl rfl rfl ?_
      refine t_fr (i := 19) (by kernel_rfl) rfl (po_faddr rfl (by exact fc_field_157_0_0)) rfl rfl rfl ?_
      refine t_rd (i := 20) (by kernel_rfl) rfl (po_load rfl (by exact fc_flat_155) (by rfl)) (by first | exact fun _ h => h | exact ent) rfl rfl rfl ?_
      refine t_fr (i := 21) (by kernel_rfl) rfl (po_move rfl) rfl rfl rfl ?_
      refine t_rd (i := 22) (by kernel_rfl) rfl (po_iaddr rfl rfl (by exact fc_slice_155_160_2) (by first | omega | (simp only [List.length_nil, List.length_cons, List.length_append, List.length_replicate, List.length_set, List.length_map, List.length_take, List.length_drop]; omega)) (by first | omega | (simp only [List.length_nil, List.length_cons, List.length_append, List.length_replicate, List.length_set, List.length_map, List.length_take, List.length_drop]; omega))) (by first | exact fun _ h => h | exact ent) rfl rfl rfl ?_
      refine t_rd (i := 23) (by kernel_rfl) rfl (ld_eH rfl (List.getElem?_eq_getElem (by first | omega | (simp only [List.length_nil, List.length_cons, List.length_append, List.length_replicate, List.length_set, List.length_map, List.length_take, List.length_drop]; omega))) (by exact fc_agg_160_2)) (by first | exact fun _ h => h | exact ent) rfl rfl rfl ?_
      refine t_rd (i := 24) (by kernel_rfl) rfl (po_iaddr rfl rfl (by exact fc_slice_155_160_2) (by first | omega | (simp only [List.length_nil, List.length_cons, List.length_append, List.length_replicate, List.length_set, List.length_map, List.length_take, List.length_drop]; omega)) (by first | omega | (simp only [List.length_nil, List.length_cons, List.length_append, List.length_replicate, List.length_set, List.length_map, List.length_take, List.length_drop]; omega))) (by first | exact fun _ h => h | exact ent) rfl rfl rfl ?_
      refine t_st (i := 25) (by kernel_rfl) rfl (st_so (st_eH rfl rfl (by first | omega | (simp only [List.length_nil, List.length_cons, List.length_append, List.length_replicate, List.length_set, List.length_map, List.length_take, List.length_drop]; omega)) (by exact fc_agg_160_2)) rfl rfl ?_)
      refine ⟨fun h => late_no h (by kernel_rfl), ?_⟩
      refine t_st (i := 26) (by kernel_rfl) rfl (st_po (po_iaddr rfl rfl (by exact fc_slice_155_160_2) (by first | omega | (simp only [List.length_nil, List.length_cons, List.length_append, List.length_replicate, List.length_set, List.length_map, List.length_take, List.length_drop]; omega)) (by first | omega | (simp only [List.length_nil, List.length_cons, List.length_append, List.length_replicate, List.length_set, List.length_map, List.length_take, List.length_drop]; omega))) rfl rfl rfl ?_)
      refine ⟨fun h => late_no h (by kernel_rfl), ?_⟩
      refine t_st (i := 27) (by kernel_rfl) rfl (st_so (st_eH rfl rfl (by first | omega | (simp only [List.length_nil, List.length_cons, List.length_append, List.length_replicate, List.length_set, List.length_map, List.length_take, List.length_drop]; omega)) (by exact fc_agg_160_2)) rfl rfl ?_)
      refine ⟨fun h => late_no h (by kernel_rfl), ?_⟩
      refine t_nil (by kernel_rfl) ?_
      refine at_then_wp ?_
      refine r_reg ?_
      refine ws (st_po (po_move rfl) rfl rfl rfl ?_)
      refine ws (st_po (po_assign rfl) rfl rfl rfl ?_)
      refine s_nil ?_
      refine at_block_normal ?_
      have e1 : (i.toNat - 1) / 2 = ((i - 1) / 2).toNat := by omega
      have e2 := lg_get (l := l1) (i := i.toNat) (by omega)
      have e3 := lg_get (l := l1) (i := ((i - 1) / 2).toNat) (by omega)
      rw [← e2, ← e3] at hls
      rw [← e2, ← e3, ← swp]
      exact at_again (((i - 1) / 2, swp l1 i.toNat ((i - 1) / 2).toNat)) (And.intro rfl (trivial)) (And.intro rfl (trivial)) (⟨by omega, by rw [swp_len]; omega, by rw [swp_len]; exact hll, (swp_perm (by omega) (by omega)).trans hpm, by rw [← e1]; exact up_step hup (by omega) (by omega) (by rw [e1]; exact hls), by omega⟩) (by omega) ent
  · intro hgt
    refine r_exit ?_
    refine at_then_exit ?_
    refine at_then_exit ?_
    refine at_block_here ?_
    refine at_end0 rfl ⟨_, ⟨l1, rfl, rfl, up_end (i := i.toNat) hup (.inl (by omega)), hpm⟩, ?_⟩
    try dsimp only [List.cons_append, List.nil_append, heapL, heapLF]
    exact ent

theorem heap_down (b : Nat) (v : Value) (l : List Ent) (hl : l.length ≤ 2^40) (hi : DnI l 0) : Spec PP 121 #[heapP b] (heapL b v l) (fun r M => ∃ l', r = .tuple #[] ∧ M = heapL b v l' ∧ HpL l' ∧ l'.Perm l) := by
  refine spec_of (Go.Proofs.Tryz.func121) rfl rfl rfl (by exact fc_enters_121) ?_
  intro g F
  try dsimp only [List.cons_append, List.nil_append, heapL, heapLF]
  refine r_seq ?_
  refine r_reg ?_
  refine ws (st_po (po_assign rfl) rfl rfl rfl ?_)
  refine s_nil ?_
  refine at_then_wp ?_
  refine r_block ?_
  refine r_loop (S := Int × List Ent) (fun ⟨i, l1⟩ => [(2, .int .i64 i)]) [(0, _)] (fun ⟨i, l1⟩ => heapLF F b v l1) (fun ⟨i, l1⟩ => 0 ≤ i ∧ (i < l1.length ∨ i = 0) ∧ l1.length = l.length ∧ l1.Perm l ∧ DnI l1 i.toNat) (fun ⟨i, l1⟩ => l.length - i.toNat) ((0, l)) (And.intro rfl (trivial)) (And.intro rfl (trivial)) (⟨by omega, .inr rfl, rfl, .rfl, hi⟩) ent ?_
  rintro ⟨i, l1⟩ ⟨hi1, hi2, hll, hpm, hdn⟩
  try dsimp only [List.cons_append, List.nil_append, heapL, heapLF]
  refine r_block ?_
  refine r_seq ?_
  refine r_reg ?_
  refine ws (st_po (po_move rfl) rfl rfl rfl ?_)
  refine ws (st_po (po_assign rfl) rfl rfl rfl ?_)
  refine s_nil ?_
  refine at_then_wp ?_
  refine r_seq ?_
  refine r_seq ?_
  refine r_reg ?_
  refine ws (st_po (po_move rfl) rfl rfl rfl ?_)
  refine ws (st_po (po_mul' rfl rfl (by omega) (by omega)) rfl rfl rfl ?_)
  refine ws (st_po (po_add' rfl rfl (by omega) (by omega)) rfl rfl rfl ?_)
  refine ws (st_po (po_assign rfl) rfl rfl rfl ?_)
  refine s_nil ?_
  refine at_then_wp ?_
  refine r_block ?_
  refine r_loop (S := Int × Int) (fun ⟨m, k⟩ => [(3, .int .i64 m), (4, .int .i64 k)]) [(0, _), (2, _)] (fun ⟨m, k⟩ => heapLF F b v l1) (fun ⟨m, k⟩ => 2 * i + 1 ≤ k ∧ k ≤ 2 * i + 3 ∧ (m = i ∨ (2 * i + 1 ≤ m ∧ m < k ∧ m < l1.length ∧ lessE (lg l1 m.toNat) (lg l1 i.toNat))) ∧ ∀ j : Nat, 2 * i + 1 ≤ j → (j : Int) < k → j < l1.length → leE (lg l1 m.toNat) (lg l1 j)) (fun ⟨m, k⟩ => (2 * i + 3 - k).toNat) ((i, 2 * i + 1)) (And.intro rfl (And.intro rfl (trivial))) (And.intro rfl (And.intro rfl (trivial))) (⟨by omega, by omega, .inl rfl, fun j h1 h2 h3 => by omega⟩) ent ?_
  rintro ⟨m, k⟩ ⟨hk1, hk2, hm, hle⟩
  try dsimp only [List.cons_append, List.nil_append, heapL, heapLF]
  refine r_seq ?_
  refine r_seq ?_
  refine r_reg ?_
  refine ws (st_po (po_move rfl) rfl rfl rfl ?_)
  refine ws (st_po (po_move rfl) rfl rfl rfl ?_)
  refine ws (st_po (po_mul' rfl rfl (by omega) (by omega)) rfl rfl rfl ?_)
  refine ws (st_po (po_add' rfl rfl (by omega) (by omega)) rfl rfl rfl ?_)
  refine ws (st_po (po_le rfl rfl) rfl rfl rfl ?_)
  by_cases hk3 : k ≤ 2 * i + 2
  · skip
    refine ws (st_po (po_bt (po_move rfl) (decide_eq_true hk3)) rfl rfl rfl ?_)
    refine ws (st_po (po_move rfl) rfl rfl rfl ?_)
    refine ws (st_po (po_move rfl) rfl rfl rfl ?_)
    refine ws (st_po (po_nil rfl) rfl rfl rfl ?_)
    refine ws (st_po (po_faddr rfl (by exact fc_field_157_0_0)) rfl rfl rfl ?_)
    refine ws (st_po (po_load rfl (by exact fc_flat_155) (by rfl)) rfl rfl rfl ?_)
    refine ws (st_po (po_len rfl (by exact fc_slice_155_160_2)) rfl rfl rfl ?_)
    refine ws (st_po (po_lt rfl rfl) rfl rfl rfl ?_)
    refine ws (st_po (po_pick_t rfl rfl) rfl rfl rfl ?_)
    refine s_nil ?_
    refine at_then_wp ?_
    first | refine r_cond_not rfl ?_ ?_ | refine r_cond_dec rfl ?_ ?_ | refine r_cond rfl ?_ ?_
    · intro hkl
      have hml : 0 ≤ m ∧ m < l1.length := by omega
      have e2 := lg_get (l := l1) (i := k.toNat) (by omega)
      have e3 := lg_get (l := l1) (i := m.toNat) (by omega)
      refine r_skip ?_
      refine at_then_wp ?_
      refine r_seq ?_
      refine r_block ?_
      refine r_seq ?_
      refine r_ord [] _ [(0, 1), (1, 1), (2, 1), (3, 0), (4, 1), (5, 0), (6, 0), (7, 1), (8, 1), (9, 1), (10, 0), (11, 1), (12, 0), (13, 0), (14, 2)] fc_mixed (by kernel_rfl) (fun _ h => h) ?_
      refine o_fr rfl (po_move rfl) rfl rfl rfl ?_
      refine o_fr rfl (po_nil rfl) rfl rfl rfl ?_
      refine o_fr rfl (po_faddr rfl (by exact fc_field_157_0_0)) rfl rfl rfl ?_
      refine o_rd rfl (po_load rfl (by exact fc_flat_155) (by rfl)) (by first | exact fun _ h => h | exact ent) rfl rfl rfl ?_
      refine o_fr rfl (po_move rfl) rfl rfl rfl ?_
      refine o_rd rfl (po_iaddr rfl rfl (by exact fc_slice_155_160_2) (by first | omega | (simp only [List.length_nil, List.length_cons, List.length_append, List.length_replicate, List.length_set, List.length_map, List.length_take, List.length_drop]; omega)) (by first | omega | (simp only [List.length_nil, List.length_cons, List.length_append, List.length_replicate, List.length_set, List.length_map, List.length_take, List.length_drop]; omega))) (by first | exact fun _ h => h | exact ent) rfl rfl rfl ?_
      refine o_rd rfl (ld_eH rfl (List.getElem?_eq_getElem (by first | omega | (simp only [List.length_nil, List.length_cons, List.length_append, List.length_replicate, List.length_set, List.length_map, List.length_take, List.length_drop]; omega))) (by exact fc_agg_160_2)) (by first | exact fun _ h => h | exact ent) rfl rfl rfl ?_
      refine o_fr rfl (po_move rfl) rfl rfl rfl ?_
      refine o_fr rfl (po_nil rfl) rfl rfl rfl ?_
      refine o_fr rfl (po_faddr rfl (by exact fc_field_157_0_0)) rfl rfl rfl ?_
      refine o_rd rfl (po_load rfl (by exact fc_flat_155) (by rfl)) (by first | exact fun _ h => h | exact ent) rfl rfl rfl ?_
      refine o_fr rfl (po_move rfl) rfl rfl rfl ?_
      refine o_rd rfl (po_iaddr rfl rfl (by exact fc_slice_155_160_2) (by first | omega | (simp only [List.length_nil, List.length_cons, List.length_append, List.length_replicate, List.length_set, List.length_map, List.length_take, List.length_drop]; omega)) (by first | omega | (simp only [List.length_nil, List.length_cons, List.length_append, List.length_replicate, List.length_set, List.length_map, List.length_take, List.length_drop]; omega))) (by first | exact fun _ h => h | exact ent) rfl rfl rfl ?_
      refine o_rd rfl (ld_eH rfl (List.getElem?_eq_getElem (by first | omega | (simp only [List.length_nil, List.length_cons, List.length_append, List.length_replicate, List.length_set, List.length_map, List.length_take, List.length_drop]; omega))) (by exact fc_agg_160_2)) (by first | exact fun _ h => h | exact ent) rfl rfl rfl ?_
      refine o_st rfl (st_call (co_fn rfl rfl) (ent_less (l1[k.toNat]'(by omega)) (l1[m.toNat]'(by omega))) (by infer_instance) rfl rfl rfl ?_)
      rintro v39 _ ⟨rfl, rfl⟩
      try dsimp only [List.cons_append, List.nil_append, heapL, heapLF]
      refine ⟨fun _ => (by first | exact fun _ h => h | exact ent), ?_⟩
      refine o_nil ?_
      refine at_then_wp ?_
      first | refine r_cond_not rfl ?_ ?_ | refine r_cond_dec rfl ?_ ?_ | refine r_cond rfl ?_ ?_
      · intro hls
        refine r_reg ?_
        refine ws (st_po (po_move rfl) rfl rfl rfl ?_)
        refine ws (st_po (po_assign rfl) rfl rfl rfl ?_)
        refine s_nil ?_
        refine at_block_normal ?_
        refine at_then_wp ?_
        refine r_reg ?_
        refine ws (st_po (po_move rfl) rfl rfl rfl ?_)
        refine ws (st_po (po_add' rfl rfl (by omega) (by omega)) rfl rfl rfl ?_)
        refine ws (st_po (po_assign rfl) rfl rfl rfl ?_)
        refine s_nil ?_
        rw [← e2, ← e3] at hls
        exact at_again ((k, k + 1)) (And.intro rfl (And.intro rfl (trivial))) (And.intro rfl (And.intro rfl (trivial))) (⟨by omega, by omega, .inr ⟨by omega, by omega, by omega, by rcases hm with hm | hm; (rw [← hm]; exact hls); exact less_trans hls hm.2.2.2⟩, fun j h1 h2 h3 => by by_cases e : (j : Int) = k; (rw [show j = k.toNat by omega]; exact leE_refl _); exact leE_trans (leE_of hls) (hle j h1 (by omega) h3)⟩) (by omega) ent
      · intro hls
        refine r_skip ?_
        refine at_block_normal ?_
        refine at_then_wp ?_
        refine r_reg ?_
        refine ws (st_po (po_move rfl) rfl rfl rfl ?_)
        refine ws (st_po (po_add' rfl rfl (by omega) (by omega)) rfl rfl rfl ?_)
        refine ws (st_po (po_assign rfl) rfl rfl rfl ?_)
        refine s_nil ?_
        rw [← e2, ← e3] at hls
        exact at_again ((m, k + 1)) (And.intro rfl (And.intro rfl (trivial))) (And.intro rfl (And.intro rfl (trivial))) (⟨by omega, by omega, hm.imp id (fun h => ⟨h.1, by omega, h.2.2⟩), fun j h1 h2 h3 => by by_cases e : (j : Int) = k; (rw [show j = k.toNat by omega]; exact hls); exact hle j h1 (by omega) h3⟩) (by omega) ent
    · intro hkl
      refine r_exit ?_
      refine at_then_exit ?_
      refine at_then_exit ?_
      refine at_block_here ?_
      refine at_then_wp ?_
      refine r_seq ?_
      refine r_seq ?_
      refine r_reg ?_
      refine ws (st_po (po_move rfl) rfl rfl rfl ?_)
      refine ws (st_po (po_move rfl) rfl rfl rfl ?_)
      refine ws (st_po (po_eq rfl rfl) rfl rfl rfl ?_)
      refine s_nil ?_
      refine at_then_wp ?_
      first | refine r_cond_not rfl ?_ ?_ | refine r_cond_dec rfl ?_ ?_ | refine r_cond rfl ?_ ?_
      · intro hmi
        refine r_ret ?_
        refine at_then_ret ?_
        refine at_block_ret ?_
        refine at_then_ret ?_
        refine at_block_ret ?_
        refine at_ret0 rfl  ⟨_, ⟨l1, rfl, rfl, dn_end (i := i.toNat) hdn (fun j j0 jl jp => by rw [← hmi]; exact hle j (by omega) (by omega) jl), hpm⟩, ?_⟩
        try dsimp only [List.cons_append, List.nil_append, heapL, heapLF]
        exact ent
      · intro hmi
        have hml : 0 ≤ m ∧ m < l1.length ∧ i < l1.length := by omega
        have hms := hm.resolve_left hmi
        refine r_skip ?_
        refine at_then_wp ?_
        refine r_seq ?_
        refine r_tree [25, 27] _ 28 fc_mixed (by kernel_rfl) (fun _ h => h) ?_
        refine t_fr (i := 0) (by kernel_rfl) rfl (po_move rfl) rfl rfl rfl ?_
        refine t_fr (i := 1) (by kernel_rfl) rfl (po_nil rfl) rfl rfl rfl ?_
        refine t_fr (i := 2) (by kernel_rfl) rfl (po_faddr rfl (by exact fc_field_157_0_0)) rfl rfl rfl ?_
        refine t_rd (i := 3) (by kernel_rfl) rfl (po_load rfl (by exact fc_flat_155) (by rfl)) (by first | exact fun _ h => h | exact ent) rfl rfl rfl ?_
        refine t_fr (i := 4) (by kernel_rfl) rfl (po_move rfl) rfl rfl rfl ?_
        refine t_fr (i := 5) (by kernel_rfl) rfl (po_move rfl) rfl rfl rfl ?_
        refine t_fr (i := 6) (by kernel_rfl) rfl (po_nil rfl) rfl rfl rfl ?_
        refine t_fr (i := 7) (by kernel_rfl) rfl (po_faddr rfl (by exact fc_field_157_0_0)) rfl rfl rfl ?_
        refine t_rd (i := 8) (by kernel_rfl) rfl (po_load rfl (by exact fc_flat_155) (by rfl)) (by first | exact fun _ h => h | exact ent) rfl rfl rfl ?_
        refine t_fr (i := 9) (by kernel_rfl) rfl (po_move rfl) rfl rfl rfl ?_
        refine t_fr (i := 10) (by kernel_rfl) rfl (po_move rfl) rfl rfl rfl ?_
        refine t_fr (i := 11) (by kernel_rfl) rfl (po_nil rfl) rfl rfl rfl ?_
        refine t_fr (i := 12) (by kernel_rfl) rfl (po_faddr rfl (by exact fc_field_157_0_0)) rfl rfl rfl ?_
        refine t_rd (i := 13) (by kernel_rfl) rfl (po_load rfl (by exact fc_flat_155) (by rfl)) (by first | exact fun _ h => h | exact ent) rfl rfl rfl ?_
        refine t_fr (i := 14) (by kernel_rfl) rfl (po_move rfl) rfl rfl rfl ?_
        refine t_rd (i := 15) (by kernel_rfl) rfl (po_iaddr rfl rfl (by exact fc_slice_155_160_2) (by first | omega | (simp only [List.length_nil, List.length_cons, List.length_append, List.length_replicate, List.length_set, List.length_map, List.length_take, List.length_drop]; omega)) (by first | omega | (simp only [List.length_nil, List.length_cons, List.length_append, List.length_replicate, List.length_set, List.length_map, List.length_take, List.length_drop]; omega))) (by first | exact fun _ h => h | exact ent) rfl rfl rfl ?_
        refine t_rd (i := 16) (by kernel_rfl) rfl (ld_eH rfl (List.getElem?_eq_getElem (by first | omega | (simp only [List.length_nil, List.length_cons, List.length_append, List.length_replicate, List.length_set, List.length_map, List.length_take, List.length_drop]; omega))) (by exact fc_agg_160_2)) (by first | exact fun _ h => h | exact ent) rfl rfl rfl ?_
        refine t_fr (i := 17) (by kernel_rfl) rfl (po_move rfl) rfl rfl rfl ?_
        refine t_fr (i := 18) (by kernel_rfl) rfl (po_nil rfl) rfl rfl rfl ?_
        refine t_fr (i := 19) (by kernel_rfl) rfl (po_faddr rfl (by exact fc_field_157_0_0)) rfl rfl rfl ?_
        refine t_rd (i := 20) (by kernel_rfl) rfl (po_load rfl (by exact fc_flat_155) (by rfl)) (by first | exact fun _ h => h | exact ent) rfl rfl rfl ?_
        refine t_fr (i := 21) (by kernel_rfl) rfl (po_move rfl) rfl rfl rfl ?_
        refine t_rd (i := 22) (by kernel_rfl) rfl (po_iaddr rfl rfl (by exact fc_slice_155_160_2) (by first | omega | (simp only [List.length_nil, List.length_cons, List.length_append, List.length_replicate, List.length_set, List.length_map, List.length_take, List.length_drop]; omega)) (by first | omega | (simp only [List.length_nil, List.length_cons, List.length_append, List.length_replicate, List.length_set, List.length_map, List.length_take, List.length_drop]; omega))) (by first | exact fun _ h => h | exact ent) rfl rfl rfl ?_
        refine t_rd (i := 23) (by kernel_rfl) rfl (ld_eH rfl (List.getElem?_eq_getElem (by first | omega | (simp only [List.length_nil, List.length_cons, List.length_append, List.length_replicate, List.length_set, List.length_map, List.length_take, List.length_drop]; omega))) (by exact fc_agg_160_2)) (by first | exact fun _ h => h | exact ent) rfl rfl rfl ?_
        refine t_rd (i := 24) (by kernel_rfl) rfl (po_iaddr rfl rfl (by exact fc_slice_155_160_2) (by first | omega | (simp only [List.length_nil, List.length_cons, List.length_append, List.length_replicate, List.length_set, List.length_map, List.length_take, List.length_drop]; omega)) (by first | omega | (simp only [List.length_nil, List.length_cons, List.length_append, List.length_replicate, List.length_set, List.length_map, List.length_take, List.length_drop]; omega))) (by first | exact fun _ h => h | exact ent) rfl rfl rfl ?_
        refine t_st (i := 25) (by kernel_rfl) rfl (st_so (st_eH rfl rfl (by first | omega | (simp only [List.length_nil, List.length_cons, List.length_append, List.length_replicate, List.length_set, List.length_map, List.length_take, List.length_drop]; omega)) (by exact fc_agg_160_2)) rfl rfl ?_)
        refine ⟨fun h => late_no h (by kernel_rfl), ?_⟩
        refine t_st (i := 26) (by kernel_rfl) rfl (st_po (po_iaddr rfl rfl (by exact fc_slice_155_160_2) (by first | omega | (simp only [List.length_nil, List.length_cons, List.length_append, List.length_replicate, List.length_set, List.length_map, List.length_take, List.length_drop]; omega)) (by first | omega | (simp only [List.length_nil, List.length_cons, List.length_append, List.length_replicate, List.length_set, List.length_map, List.length_take, List.length_drop]; omega))) rfl rfl rfl ?_)
        refine ⟨fun h => late_no h (by kernel_rfl), ?_⟩
        refine t_st (i := 27) (by kernel_rfl) rfl (st_so (st_eH rfl rfl (by first | omega | (simp only [List.length_nil, List.length_cons, List.length_append, List.length_replicate, List.length_set, List.length_map, List.length_take, List.length_drop]; omega)) (by exact fc_agg_160_2)) rfl rfl ?_)
        refine ⟨fun h => late_no h (by kernel_rfl), ?_⟩
        refine t_nil (by kernel_rfl) ?_
        refine at_then_wp ?_
        refine r_reg ?_
        refine ws (st_po (po_move rfl) rfl rfl rfl ?_)
        refine ws (st_po (po_assign rfl) rfl rfl rfl ?_)
        refine s_nil ?_
        refine at_block_normal ?_
        have e2 := lg_get (l := l1) (i := i.toNat) (by omega)
        have e3 := lg_get (l := l1) (i := m.toNat) (by omega)
        rw [← e2, ← e3, ← swp]
        exact at_again ((m, swp l1 i.toNat m.toNat)) (And.intro rfl (trivial)) (And.intro rfl (trivial)) (⟨by omega, .inl (by rw [swp_len]; omega), by rw [swp_len]; exact hll, (swp_perm (by omega) (by omega)).trans hpm, dn_step hdn (by omega) (by omega) (by omega) hms.2.2.2 (fun j j0 jl jp => hle j (by omega) (by omega) jl)⟩) (by dsimp only; omega) ent
  · skip
    refine ws (st_po (po_bf (po_move rfl) (decide_eq_false hk3)) rfl rfl rfl ?_)
    refine ws (st_no rfl rfl rfl ?_)
    refine ws (st_no rfl rfl rfl ?_)
    refine ws (st_no rfl rfl rfl ?_)
    refine ws (st_no rfl rfl rfl ?_)
    refine ws (st_no rfl rfl rfl ?_)
    refine ws (st_no rfl rfl rfl ?_)
    refine ws (st_no rfl rfl rfl ?_)
    refine ws (st_po (po_pick_f rfl rfl) rfl rfl rfl ?_)
    refine s_nil ?_
    refine at_then_wp ?_
    refine r_cond_f rfl rfl ?_
    refine r_exit ?_
    refine at_then_exit ?_
    refine at_then_exit ?_
    refine at_block_here ?_
    refine at_then_wp ?_
    refine r_seq ?_
    refine r_seq ?_
    refine r_reg ?_
    refine ws (st_po (po_move rfl) rfl rfl rfl ?_)
    refine ws (st_po (po_move rfl) rfl rfl rfl ?_)
    refine ws (st_po (po_eq rfl rfl) rfl rfl rfl ?_)
    refine s_nil ?_
    refine at_then_wp ?_
    first | refine r_cond_not rfl ?_ ?_ | refine r_cond_dec rfl ?_ ?_ | refine r_cond rfl ?_ ?_
    · intro hmi
      refine r_ret ?_
      refine at_then_ret ?_
      refine at_block_ret ?_
      refine at_then_ret ?_
      refine at_block_ret ?_
      refine at_ret0 rfl  ⟨_, ⟨l1, rfl, rfl, dn_end (i := i.toNat) hdn (fun j j0 jl jp => by rw [← hmi]; exact hle j (by omega) (by omega) jl), hpm⟩, ?_⟩
      try dsimp only [List.cons_append, List.nil_append, heapL, heapLF]
      exact ent
    · intro hmi
      have hml : 0 ≤ m ∧ m < l1.length ∧ i < l1.length := by omega
      have hms := hm.resolve_left hmi
      refine r_skip ?_
      refine at_then_wp ?_
      refine r_seq ?_
      refine r_tree [25, 27] _ 28 fc_mixed (by kernel_rfl) (fun _ h => h) ?_
      refine t_fr (i := 0) (by kernel_rfl) rfl (po_move rfl) rfl rfl rfl ?_
      refine t_fr (i := 1) (by kernel_rfl) rfl (po_nil rfl) rfl rfl rfl ?_
      refine t_fr (i := 2) (by kernel_rfl) rfl (po_faddr rfl (by exact fc_field_157_0_0)) rfl rfl rfl ?_
      refine t_rd (i := 3) (by kernel_rfl) rfl (po_load rfl (by exact fc_flat_155) (by rfl)) (by first | exact fun _ h => h | exact ent) rfl rfl rfl ?_
      refine t_fr (i := 4) (by kernel_rfl) rfl (po_move rfl) rfl rfl rfl ?_
      refine t_fr (i := 5) (by kernel_rfl) rfl (po_move rfl) rfl rfl rfl ?_
      refine t_fr (i := 6) (by kernel_rfl) rfl (po_nil rfl) rfl rfl rfl ?_
      refine t_fr (i := 7) (by kernel_rfl) rfl (po_faddr rfl (by exact fc_field_157_0_0)) rfl rfl rfl ?_
      refine t_rd (i := 8) (by kernel_rfl) rfl (po_load rfl (by exact fc_flat_155) (by rfl)) (by first | exact fun _ h => h | exact ent) rfl rfl rfl ?_
      refine t_fr (i := 9) (by kernel_rfl) rfl (po_move rfl) rfl rfl rfl ?_
      refine t_fr (i := 10) (by kernel_rfl) rfl (po_move rfl) rfl rfl rfl ?_
      refine t_fr (i := 11) (by kernel_rfl) rfl (po_nil rfl) rfl rfl rfl ?_
      refine t_fr (i := 12) (by kernel_rfl) rfl (po_faddr rfl (by exact fc_field_157_0_0)) rfl rfl rfl ?_
      refine t_rd (i := 13) (by kernel_rfl) rfl (po_load rfl (by exact fc_flat_155) (by rfl)) (by first | exact fun _ h => h | exact ent) rfl rfl rfl ?_
      refine t_fr (i := 14) (by kernel_rfl) rfl (po_move rfl) rfl rfl rfl ?_
      refine t_rd (i := 15) (by kernel_rfl) rfl (po_iaddr rfl rfl (by exact fc_slice_155_160_2) (by first | omega | (simp only [List.length_nil, List.length_cons, List.length_append, List.length_replicate, List.length_set, List.length_map, List.length_take, List.length_drop]; omega)) (by first | omega | (simp only [List.length_nil, List.length_cons, List.length_append, List.length_replicate, List.length_set, List.length_map, List.length_take, List.length_drop]; omega))) (by first | exact fun _ h => h | exact ent) rfl rfl rfl ?_
      refine t_rd (i := 16) (by kernel_rfl) rfl (ld_eH rfl (List.getElem?_eq_getElem (by first | omega | (simp only [List.length_nil, List.length_cons, List.length_append, List.length_replicate, List.length_set, List.length_map, List.length_take, List.length_drop]; omega))) (by exact fc_agg_160_2)) (by first | exact fun _ h => h | exact ent) rfl rfl rfl ?_
      refine t_fr (i := 17) (by kernel_rfl) rfl (po_move rfl) rfl rfl rfl ?_
      refine t_fr (i := 18) (by kernel_rfl) rfl (po_nil rfl) rfl rfl rfl ?_
      refine t_fr (i := 19) (by kernel_rfl) rfl (po_faddr rfl (by exact fc_field_157_0_0)) rfl rfl rfl ?_
      refine t_rd (i := 20) (by kernel_rfl) rfl (po_load rfl (by exact fc_flat_155) (by rfl)) (by first | exact fun _ h => h | exact ent) rfl rfl rfl ?_
      refine t_fr (i := 21) (by kernel_rfl) rfl (po_move rfl) rfl rfl rfl ?_
      refine t_rd (i := 22) (by kernel_rfl) rfl (po_iaddr rfl rfl (by exact fc_slice_155_160_2) (by first | omega | (simp only [List.length_nil, List.length_cons, List.length_append, List.length_replicate, List.length_set, List.length_map, List.length_take, List.length_drop]; omega)) (by first | omega | (simp only [List.length_nil, List.length_cons, List.length_append, List.length_replicate, List.length_set, List.length_map, List.length_take, List.length_drop]; omega))) (by first | exact fun _ h => h | exact ent) rfl rfl rfl ?_
      refine t_rd (i := 23) (by kernel_rfl) rfl (ld_eH rfl (List.getElem?_eq_getElem (by first | omega | (simp only [List.length_nil, List.length_cons, List.length_append, List.length_replicate, List.length_set, List.length_map, List.length_take, List.length_drop]; omega))) (by exact fc_agg_160_2)) (by first | exact fun _ h => h | exact ent) rfl rfl rfl ?_
      refine t_rd (i := 24) (by kernel_rfl) rfl (po_iaddr rfl rfl (by exact fc_slice_155_160_2) (by first | omega | (simp only [List.length_nil, List.length_cons, List.length_append, List.length_replicate, List.length_set, List.length_map, List.length_take, List.length_drop]; omega)) (by first | omega | (simp only [List.length_nil, List.length_cons, List.length_append, List.length_replicate, List.length_set, List.length_map, List.length_take, List.length_drop]; omega))) (by first | exact fun _ h => h | exact ent) rfl rfl rfl ?_
      refine t_st (i := 25) (by kernel_rfl) rfl (st_so (st_eH rfl rfl (by first | omega | (simp only [List.length_nil, List.length_cons, List.length_append, List.length_replicate, List.length_set, List.length_map, List.length_take, List.length_drop]; omega)) (by exact fc_agg_160_2)) rfl rfl ?_)
      refine ⟨fun h => late_no h (by kernel_rfl), ?_⟩
      refine t_st (i := 26) (by kernel_rfl) rfl (st_po (po_iaddr rfl rfl (by exact fc_slice_155_160_2) (by first | omega | (simp only [List.length_nil, List.length_cons, List.length_append, List.length_replicate, List.length_set, List.length_map, List.length_take, List.length_drop]; omega)) (by first | omega | (simp only [List.length_nil, List.length_cons, List.length_append, List.length_replicate, List.length_set, List.length_map, List.length_take, List.length_drop]; omega))) rfl rfl rfl ?_)
      refine ⟨fun h => late_no h (by kernel_rfl), ?_⟩
      refine t_st (i := 27) (by kernel_rfl) rfl (st_so (st_eH rfl rfl (by first | omega | (simp only [List.length_nil, List.length_cons, List.length_append, List.length_replicate, List.length_set, List.length_map, List.length_take, List.length_drop]; omega)) (by exact fc_agg_160_2)) rfl rfl ?_)
      refine ⟨fun h => late_no h (by kernel_rfl), ?_⟩
      refine t_nil (by kernel_rfl) ?_
      refine at_then_wp ?_
      refine r_reg ?_
      refine ws (st_po (po_move rfl) rfl rfl rfl ?_)
      refine ws (st_po (po_assign rfl) rfl rfl rfl ?_)
      refine s_nil ?_
      refine at_block_normal ?_
      have e2 := lg_get (l := l1) (i := i.toNat) (by omega)
      have e3 := lg_get (l := l1) (i := m.toNat) (by omega)
      rw [← e2, ← e3, ← swp]
      exact at_again ((m, swp l1 i.toNat m.toNat)) (And.intro rfl (trivial)) (And.intro rfl (trivial)) (⟨by omega, .inl (by rw [swp_len]; omega), by rw [swp_len]; exact hll, (swp_perm (by omega) (by omega)).trans hpm, dn_step hdn (by omega) (by omega) (by omega) hms.2.2.2 (fun j j0 jl jp => hle j (by omega) (by omega) jl)⟩) (by dsimp only; omega) ent

theorem heap_New : Spec PP 93 #[] [] (fun r M => ∃ b, r = heapP b ∧ M = heapL b (.slice none 0 0) []) := by
  refine spec_of (Go.Proofs.Tryz.func93) rfl rfl rfl (by exact fc_enters_93) ?_
  intro g F
  try dsimp only [List.cons_append, List.nil_append, heapL, heapLF]
  refine r_seq ?_
  refine r_reg ?_
  refine ws (st_po (po_assign rfl) rfl rfl rfl ?_)
  refine s_nil ?_
  refine at_then_wp ?_
  refine r_seq ?_
  refine r_reg ?_
  refine ws (st_po (po_build1 rfl (by exact fc_zero_157) (by exact fc_places_157) (by exact fc_info_157) rfl) rfl rfl rfl ?_)
  refine ws (st_xo (xo_box rfl rfl) rfl rfl rfl ?_)
  rintro _ _ ⟨b2, rfl, rfl⟩
  refine ws (st_po (po_assign rfl) rfl rfl rfl ?_)
  refine s_nil ?_
  refine at_then_wp ?_
  refine r_ret ?_
  refine at_ret1 rfl (rv_tmp rfl) ⟨_, ⟨_, rfl, rfl⟩, ?_⟩
  try dsimp only [List.cons_append, List.nil_append, heapL, heapLF]
  exact ent
theorem heap_Push (b : Nat) (v : Value) (l : List Ent) (key item : Int) (hl : l.length ≤ 2^39) (hp : HpL l) : Spec PP 97 #[heapP b, .int .i64 key, .int .i64 item] (heapL b v l) (fun r M => ∃ v' l', r = .tuple #[] ∧ M = heapL b v' l' ∧ HpL l' ∧ l'.Perm (⟨key, item⟩ :: l)) := by
  refine spec_of (Go.Proofs.Tryz.func97) rfl rfl rfl (by exact fc_enters_97) ?_
  intro g F
  try dsimp only [List.cons_append, List.nil_append, heapL, heapLF]
  refine r_seq ?_
  refine r_seq ?_
  refine r_reg ?_
  refine ws (st_po (po_move rfl) rfl rfl rfl ?_)
  refine ws (st_po (po_peq rfl rfl (by exact fc_ptr_127)) rfl rfl rfl ?_)
  refine s_nil ?_
  refine at_then_wp ?_
  refine r_cond_f rfl (rfl) ?_
  refine r_skip ?_
  refine at_then_wp ?_
  refine r_seq ?_
  refine r_reg ?_
  refine ws (st_po (po_move rfl) rfl rfl rfl ?_)
  refine ws (st_po (po_move rfl) rfl rfl rfl ?_)
  refine ws (st_po (po_nil rfl) rfl rfl rfl ?_)
  refine ws (st_po (po_faddr rfl (by exact fc_field_157_0_0)) rfl rfl rfl ?_)
  refine ws (st_po (po_load rfl (by exact fc_flat_155) (by rfl)) rfl rfl rfl ?_)
  refine ws (st_po (po_move rfl) rfl rfl rfl ?_)
  refine ws (st_po (po_move rfl) rfl rfl rfl ?_)
  refine ws (st_po (po_build1 rfl (by exact fc_zero_160) (by exact fc_places_160_0_1) (by exact fc_info_160) rfl) rfl rfl rfl ?_)
  refine ws (st_xo (xo_bslice eH [⟨key, item⟩] rfl (by exact fc_slice_155_160_2) (by exact fc_elem_160_2_16) ⟨rfl, rfl, trivial⟩ rfl (by decide)) rfl rfl rfl ?_)
  rintro v16 _ rfl
  refine ws (st_xo (xo_append rfl rfl (by exact fc_slice_155_160_2) (by exact fc_slice_155_160_2) (by exact fc_elem_160_2_16) (by first | omega | (simp only [List.length_nil, List.length_cons, List.length_append, List.length_replicate, List.length_set, List.length_map, List.length_take, List.length_drop]; omega)) (by first | omega | (simp only [List.length_nil, List.length_cons, List.length_append, List.length_replicate, List.length_set, List.length_map, List.length_take, List.length_drop]; omega))) rfl rfl rfl ?_)
  rintro v17 _ rfl
  refine ws (st_po (po_nil rfl) rfl rfl rfl ?_)
  refine ws (st_po (po_faddr rfl (by exact fc_field_157_0_0)) rfl rfl rfl ?_)
  refine ws (st_so (so_store1 rfl rfl (by exact fc_flat_155) rfl) rfl rfl ?_)
  refine s_nil ?_
  refine at_then_wp ?_
  refine r_reg ?_
  refine ws (st_po (po_move rfl) rfl rfl rfl ?_)
  refine ws (st_call (co_fn rfl rfl) (heap_up b v17 (l ++ [⟨key, item⟩]) (by simp; omega) (by simpa using up_start hp ⟨key, item⟩)) (by infer_instance) rfl rfl rfl ?_)
  rintro v21 _ ⟨l', rfl, rfl, hp', hpm⟩
  try dsimp only [List.cons_append, List.nil_append, heapL, heapLF]
  refine s_nil ?_
  refine at_end0 rfl ⟨_, ⟨v17, l', rfl, rfl, hp', hpm.trans List.perm_append_comm⟩, ?_⟩
  try dsimp only [List.cons_append, List.nil_append, heapL, heapLF]
  exact ent
theorem heap_Len (b : Nat) (v : Value) (l : List Ent) : Spec PP 148 #[heapP b] (heapL b v l) (fun r M => r = .int .i64 l.length ∧ M = heapL b v l) := by
  refine spec_of (Go.Proofs.Tryz.func148) rfl rfl rfl (by exact fc_enters_148) ?_
  intro g F
  try dsimp only [List.cons_append, List.nil_append, heapL, heapLF]
  refine r_seq ?_
  refine r_reg ?_
  refine ws (st_po (po_assign rfl) rfl rfl rfl ?_)
  refine s_nil ?_
  refine at_then_wp ?_
  refine r_seq ?_
  refine r_seq ?_
  refine r_reg ?_
  refine ws (st_po (po_move rfl) rfl rfl rfl ?_)
  refine ws (st_po (po_peq rfl rfl (by exact fc_ptr_127)) rfl rfl rfl ?_)
  refine s_nil ?_
  refine at_then_wp ?_
  refine r_cond_f rfl (rfl) ?_
  refine r_skip ?_
  refine at_then_wp ?_
  refine r_seq ?_
  refine r_reg ?_
  refine ws (st_po (po_move rfl) rfl rfl rfl ?_)
  refine ws (st_po (po_nil rfl) rfl rfl rfl ?_)
  refine ws (st_po (po_faddr rfl (by exact fc_field_157_0_0)) rfl rfl rfl ?_)
  refine ws (st_po (po_load rfl (by exact fc_flat_155) (by rfl)) rfl rfl rfl ?_)
  refine ws (st_po (po_len rfl (by exact fc_slice_155_160_2)) rfl rfl rfl ?_)
  refine ws (st_po (po_assign rfl) rfl rfl rfl ?_)
  refine s_nil ?_
  refine at_then_wp ?_
  refine r_ret ?_
  refine at_ret1 rfl (rv_tmp rfl) ⟨_, ⟨rfl, rfl⟩, ?_⟩
  try dsimp only [List.cons_append, List.nil_append, heapL, heapLF]
  exact ent
theorem heap_Top (b : Nat) (v : Value) (l : List Ent) (hl : 0 < l.length) : Spec PP 120 #[heapP b] (heapL b v l) (fun r M => r = .tuple #[.int .i64 (lg l 0).key, .int .i64 (lg l 0).item, .bool true] ∧ M = heapL b v l) := by
  refine spec_of (Go.Proofs.Tryz.func120) rfl rfl rfl (by exact fc_enters_120) ?_
  intro g F
  try dsimp only [List.cons_append, List.nil_append, heapL, heapLF]
  refine r_seq ?_
  refine r_reg ?_
  refine ws (st_po (po_assign rfl) rfl rfl rfl ?_)
  refine ws (st_po (po_assign rfl) rfl rfl rfl ?_)
  refine ws (st_po (po_assign rfl) rfl rfl rfl ?_)
  refine s_nil ?_
  refine at_then_wp ?_
  refine r_seq ?_
  refine r_seq ?_
  refine r_reg ?_
  refine ws (st_po (po_move rfl) rfl rfl rfl ?_)
  refine ws (st_call (co_fn rfl rfl) (heap_Len b v l) (by infer_instance) rfl rfl rfl ?_)
  rintro v6 _ ⟨rfl, rfl⟩
  try dsimp only [List.cons_append, List.nil_append, heapL, heapLF]
  refine ws (st_po (po_eq rfl rfl) rfl rfl rfl ?_)
  refine s_nil ?_
  refine at_then_wp ?_
  first | refine r_dec_f rfl (by omega) ?_ | refine r_nd_f rfl (by omega) ?_ | refine r_cond_f rfl (by omega) ?_
  refine r_skip ?_
  refine at_then_wp ?_
  refine r_seq ?_
  refine r_ord [] _ [(0, 1), (1, 1), (2, 1), (3, 0), (4, 0), (5, 0), (6, 0), (7, 1), (8, 1), (9, 1), (10, 0), (11, 0), (12, 0), (13, 0), (14, 1), (15, 1), (16, 1)] fc_mixed (by kernel_rfl) (fun _ h => h) ?_
  refine o_fr rfl (po_move rfl) rfl rfl rfl ?_
  refine o_fr rfl (po_nil rfl) rfl rfl rfl ?_
  refine o_fr rfl (po_faddr rfl (by exact fc_field_157_0_0)) rfl rfl rfl ?_
  refine o_rd rfl (po_load rfl (by exact fc_flat_155) (by rfl)) (by first | exact fun _ h => h | exact ent) rfl rfl rfl ?_
  refine o_rd rfl (po_iaddr rfl rfl (by exact fc_slice_155_160_2) (by first | omega | (simp only [List.length_nil, List.length_cons, List.length_append, List.length_replicate, List.length_set, List.length_map, List.length_take, List.length_drop]; omega)) (by first | omega | (simp only [List.length_nil, List.length_cons, List.length_append, List.length_replicate, List.length_set, List.length_map, List.length_take, List.length_drop]; omega))) (by first | exact fun _ h => h | exact ent) rfl rfl rfl ?_
  refine o_rd rfl (po_faddr_sl rfl (by omega) (by exact fc_field_160_0_0)) (by first | exact fun _ h => h | exact ent) rfl rfl rfl ?_
  refine o_rd rfl (po_load_sl rfl (List.getElem?_eq_getElem (by first | omega | (simp only [List.length_nil, List.length_cons, List.length_append, List.length_replicate, List.length_set, List.length_map, List.length_take, List.length_drop]; omega))) (by exact fc_flat_3) (by rfl)) (by first | exact fun _ h => h | exact ent) rfl rfl rfl ?_
  refine o_fr rfl (po_move rfl) rfl rfl rfl ?_
  refine o_fr rfl (po_nil rfl) rfl rfl rfl ?_
  refine o_fr rfl (po_faddr rfl (by exact fc_field_157_0_0)) rfl rfl rfl ?_
  refine o_rd rfl (po_load rfl (by exact fc_flat_155) (by rfl)) (by first | exact fun _ h => h | exact ent) rfl rfl rfl ?_
  refine o_rd rfl (po_iaddr rfl rfl (by exact fc_slice_155_160_2) (by first | omega | (simp only [List.length_nil, List.length_cons, List.length_append, List.length_replicate, List.length_set, List.length_map, List.length_take, List.length_drop]; omega)) (by first | omega | (simp only [List.length_nil, List.length_cons, List.length_append, List.length_replicate, List.length_set, List.length_map, List.length_take, List.length_drop]; omega))) (by first | exact fun _ h => h | exact ent) rfl rfl rfl ?_
  refine o_rd rfl (po_faddr_sl rfl (by omega) (by exact fc_field_160_1_1)) (by first | exact fun _ h => h | exact ent) rfl rfl rfl ?_
  refine o_rd rfl (po_load_sl rfl (List.getElem?_eq_getElem (by first | omega | (simp only [List.length_nil, List.length_cons, List.length_append, List.length_replicate, List.length_set, List.length_map, List.length_take, List.length_drop]; omega))) (by exact fc_flat_3) (by rfl)) (by first | exact fun _ h => h | exact ent) rfl rfl rfl ?_
  refine o_fr rfl (po_assign rfl) rfl rfl rfl ?_
  refine o_fr rfl (po_assign rfl) rfl rfl rfl ?_
  refine o_fr rfl (po_assign rfl) rfl rfl rfl ?_
  refine o_nil ?_
  refine at_then_wp ?_
  refine r_ret ?_
  refine at_ret3 rfl (rv_tmp rfl) (rv_tmp rfl) (rv_tmp rfl) ⟨_, ⟨by rw [lg_get hl]; rfl, rfl⟩, ?_⟩
  try dsimp only [List.cons_append, List.nil_append, heapL, heapLF]
  exact ent
theorem heap_Top0 (b : Nat) (v : Value) : Spec PP 120 #[heapP b] (heapL b v []) (fun r M => r = .tuple #[.int .i64 0, .int .i64 0, .bool false] ∧ M = heapL b v []) := by
  refine spec_of (Go.Proofs.Tryz.func120) rfl rfl rfl (by exact fc_enters_120) ?_
  intro g F
  try dsimp only [List.cons_append, List.nil_append, heapL, heapLF]
  refine r_seq ?_
  refine r_reg ?_
  refine ws (st_po (po_assign rfl) rfl rfl rfl ?_)
  refine ws (st_po (po_assign rfl) rfl rfl rfl ?_)
  refine ws (st_po (po_assign rfl) rfl rfl rfl ?_)
  refine s_nil ?_
  refine at_then_wp ?_
  refine r_seq ?_
  refine r_seq ?_
  refine r_reg ?_
  refine ws (st_po (po_move rfl) rfl rfl rfl ?_)
  refine ws (st_call (co_fn rfl rfl) (heap_Len b v []) (by infer_instance) rfl rfl rfl ?_)
  rintro v6 _ ⟨rfl, rfl⟩
  try dsimp only [List.cons_append, List.nil_append, heapL, heapLF]
  refine ws (st_po (po_eq rfl rfl) rfl rfl rfl ?_)
  refine s_nil ?_
  refine at_then_wp ?_
  first | refine r_dec_t rfl (by simp) ?_ | refine r_nd_t rfl (by simp) ?_ | refine r_cond_t rfl (by simp) ?_
  refine r_seq ?_
  refine r_reg ?_
  refine ws (st_po (po_assign rfl) rfl rfl rfl ?_)
  refine ws (st_po (po_assign rfl) rfl rfl rfl ?_)
  refine ws (st_po (po_assign rfl) rfl rfl rfl ?_)
  refine s_nil ?_
  refine at_then_wp ?_
  refine r_ret ?_
  refine at_then_ret ?_
  refine at_ret3 rfl (rv_tmp rfl) (rv_tmp rfl) (rv_tmp rfl) ⟨_, ⟨rfl, rfl⟩, ?_⟩
  try dsimp only [List.cons_append, List.nil_append, heapL, heapLF]
  exact ent
theorem heap_Pop (b : Nat) (v : Value) (l : List Ent) (hl : 0 < l.length) (hl2 : l.length ≤ 2^40) (hp : HpL l) : Spec PP 98 #[heapP b] (heapL b v l)
    (fun r M => ∃ (e : Ent) (v' : Value) (l' : List Ent), r = .tuple #[.int .i64 e.key, .int .i64 e.item, .bool true] ∧ M = heapL b v' l' ∧ l.Perm (e :: l') ∧ HpL l' ∧ ∀ x ∈ l, leE e x) := by
  have hmin : ∀ x ∈ l, leE (lg l 0) x := fun x hx => by
    obtain ⟨j, hj, rfl⟩ := List.getElem_of_mem hx
    rw [← lg_get hj]; exact heap_min hp j hj
  refine spec_of (Go.Proofs.Tryz.func98) rfl rfl rfl (by exact fc_enters_98) ?_
  intro g F
  try dsimp only [List.cons_append, List.nil_append, heapL, heapLF]
  refine r_seq ?_
  refine r_reg ?_
  refine ws (st_po (po_assign rfl) rfl rfl rfl ?_)
  refine ws (st_po (po_assign rfl) rfl rfl rfl ?_)
  refine ws (st_po (po_assign rfl) rfl rfl rfl ?_)
  refine s_nil ?_
  refine at_then_wp ?_
  refine r_seq ?_
  refine r_reg ?_
  refine ws (st_po (po_move rfl) rfl rfl rfl ?_)
  refine ws (st_call (co_fn rfl rfl) (heap_Top b v l hl) (by infer_instance) rfl rfl rfl ?_)
  rintro v8 _ ⟨rfl, rfl⟩
  try dsimp only [List.cons_append, List.nil_append, heapL, heapLF]
  refine ws (st_po (po_move rfl) rfl rfl rfl ?_)
  refine ws (st_po (po_extract rfl rfl) rfl rfl rfl ?_)
  refine ws (st_po (po_extract rfl rfl) rfl rfl rfl ?_)
  refine ws (st_po (po_extract rfl rfl) rfl rfl rfl ?_)
  refine ws (st_po (po_assign rfl) rfl rfl rfl ?_)
  refine ws (st_po (po_assign rfl) rfl rfl rfl ?_)
  refine ws (st_po (po_assign rfl) rfl rfl rfl ?_)
  refine s_nil ?_
  refine at_then_wp ?_
  refine r_seq ?_
  refine r_seq ?_
  refine r_reg ?_
  refine ws (st_po (po_move rfl) rfl rfl rfl ?_)
  refine s_nil ?_
  refine at_then_wp ?_
  refine r_cond_t rfl (rfl) ?_
  refine r_seq ?_
  refine r_reg ?_
  refine ws (st_po (po_move rfl) rfl rfl rfl ?_)
  refine ws (st_po (po_nil rfl) rfl rfl rfl ?_)
  refine ws (st_po (po_faddr rfl (by exact fc_field_157_0_0)) rfl rfl rfl ?_)
  refine ws (st_po (po_load rfl (by exact fc_flat_155) (by rfl)) rfl rfl rfl ?_)
  refine ws (st_po (po_len rfl (by exact fc_slice_155_160_2)) rfl rfl rfl ?_)
  refine ws (st_po (po_sub' rfl rfl (by omega) (by omega)) rfl rfl rfl ?_)
  refine ws (st_po (po_assign rfl) rfl rfl rfl ?_)
  refine s_nil ?_
  refine at_then_wp ?_
  refine r_seq ?_
  refine r_ord [12] _ [(0, 1), (1, 1), (2, 1), (3, 0), (4, 1), (5, 1), (6, 1), (7, 0), (8, 1), (9, 0), (10, 0), (11, 0), (12, 2)] fc_mixed (by kernel_rfl) (fun _ h => h) ?_
  refine o_fr rfl (po_move rfl) rfl rfl rfl ?_
  refine o_fr rfl (po_nil rfl) rfl rfl rfl ?_
  refine o_fr rfl (po_faddr rfl (by exact fc_field_157_0_0)) rfl rfl rfl ?_
  refine o_rd rfl (po_load rfl (by exact fc_flat_155) (by rfl)) (by first | exact fun _ h => h | exact ent) rfl rfl rfl ?_
  refine o_fr rfl (po_move rfl) rfl rfl rfl ?_
  refine o_fr rfl (po_nil rfl) rfl rfl rfl ?_
  refine o_fr rfl (po_faddr rfl (by exact fc_field_157_0_0)) rfl rfl rfl ?_
  refine o_rd rfl (po_load rfl (by exact fc_flat_155) (by rfl)) (by first | exact fun _ h => h | exact ent) rfl rfl rfl ?_
  refine o_fr rfl (po_move rfl) rfl rfl rfl ?_
  refine o_rd rfl (po_iaddr rfl rfl (by exact fc_slice_155_160_2) (by first | omega | (simp only [List.length_nil, List.length_cons, List.length_append, List.length_replicate, List.length_set, List.length_map, List.length_take, List.length_drop]; omega)) (by first | omega | (simp only [List.length_nil, List.length_cons, List.length_append, List.length_replicate, List.length_set, List.length_map, List.length_take, List.length_drop]; omega))) (by first | exact fun _ h => h | exact ent) rfl rfl rfl ?_
  refine o_rd rfl (ld_eH rfl (List.getElem?_eq_getElem (by first | omega | (simp only [List.length_nil, List.length_cons, List.length_append, List.length_replicate, List.length_set, List.length_map, List.length_take, List.length_drop]; omega))) (by exact fc_agg_160_2)) (by first | exact fun _ h => h | exact ent) rfl rfl rfl ?_
  refine o_rd rfl (po_iaddr rfl rfl (by exact fc_slice_155_160_2) (by first | omega | (simp only [List.length_nil, List.length_cons, List.length_append, List.length_replicate, List.length_set, List.length_map, List.length_take, List.length_drop]; omega)) (by first | omega | (simp only [List.length_nil, List.length_cons, List.length_append, List.length_replicate, List.length_set, List.length_map, List.length_take, List.length_drop]; omega))) (by first | exact fun _ h => h | exact ent) rfl rfl rfl ?_
  refine o_st rfl (st_so (st_eH rfl rfl (by first | omega | (simp only [List.length_nil, List.length_cons, List.length_append, List.length_replicate, List.length_set, List.length_map, List.length_take, List.length_drop]; omega)) (by exact fc_agg_160_2)) rfl rfl ?_)
  refine ⟨fun h => late_no h (by kernel_rfl), ?_⟩
  refine o_nil ?_
  refine at_then_wp ?_
  refine r_seq ?_
  refine r_reg ?_
  refine ws (st_po (po_move rfl) rfl rfl rfl ?_)
  refine ws (st_po (po_move rfl) rfl rfl rfl ?_)
  refine ws (st_po (po_nil rfl) rfl rfl rfl ?_)
  refine ws (st_po (po_faddr rfl (by exact fc_field_157_0_0)) rfl rfl rfl ?_)
  refine ws (st_po (po_load rfl (by exact fc_flat_155) (by rfl)) rfl rfl rfl ?_)
  refine ws (st_po (po_move rfl) rfl rfl rfl ?_)
  refine ws (st_po (po_slice_h rfl rfl (by exact fc_slice_155_160_2) (by first | omega | (simp only [List.length_nil, List.length_cons, List.length_append, List.length_replicate, List.length_set, List.length_map, List.length_take, List.length_drop]; omega)) (by first | omega | (simp only [List.length_nil, List.length_cons, List.length_append, List.length_replicate, List.length_set, List.length_map, List.length_take, List.length_drop]; omega))) rfl rfl rfl ?_)
  refine ws (st_po (po_nil rfl) rfl rfl rfl ?_)
  refine ws (st_po (po_faddr rfl (by exact fc_field_157_0_0)) rfl rfl rfl ?_)
  refine ws (st_so (so_store1 rfl rfl (by exact fc_flat_155) rfl) rfl rfl ?_)
  refine s_nil ?_
  refine at_then_wp ?_
  have e1 : ((l.length : Int) - 1).toNat = l.length - 1 := by omega
  have e2 := lg_get (l := l) (i := l.length - 1) (by omega)
  refine wp_ent (ent_sub (E := eH) (s := v) 0 ((l.length : Int) - 1).toNat (by omega) (by simp)) ?_
  simp only [e1, ← e2, List.drop_zero, Int.toNat_zero]
  refine r_reg ?_
  refine ws (st_po (po_move rfl) rfl rfl rfl ?_)
  refine ws (st_call (co_fn rfl rfl) (heap_down b (subv eH.k 0 (l.length - 1) v) ((l.set 0 (lg l (l.length - 1))).take (l.length - 1)) (by simp; omega) (dn_start hp hl)) (by infer_instance) rfl rfl rfl ?_)
  rintro v41 _ ⟨l', rfl, rfl, hp', hpm⟩
  try dsimp only [List.cons_append, List.nil_append, heapL, heapLF]
  refine s_nil ?_
  refine at_then_wp ?_
  refine r_seq ?_
  refine r_reg ?_
  refine ws (st_po (po_move rfl) rfl rfl rfl ?_)
  refine ws (st_po (po_move rfl) rfl rfl rfl ?_)
  refine ws (st_po (po_move rfl) rfl rfl rfl ?_)
  refine ws (st_po (po_assign rfl) rfl rfl rfl ?_)
  refine ws (st_po (po_assign rfl) rfl rfl rfl ?_)
  refine ws (st_po (po_assign rfl) rfl rfl rfl ?_)
  refine s_nil ?_
  refine at_then_wp ?_
  refine r_ret ?_
  refine at_ret3 rfl (rv_tmp rfl) (rv_tmp rfl) (rv_tmp rfl) ⟨_, ⟨lg l 0, subv eH.k 0 (l.length - 1) v, l', rfl, rfl, (pop_perm hl).trans (hpm.symm.cons _), hp', hmin⟩, ?_⟩
  try dsimp only [List.cons_append, List.nil_append, heapL, heapLF]
  exact ent
theorem heap_Pop0 (b : Nat) (v : Value) : Spec PP 98 #[heapP b] (heapL b v []) (fun r M => r = .tuple #[.int .i64 0, .int .i64 0, .bool false] ∧ M = heapL b v []) := by
  refine spec_of (Go.Proofs.Tryz.func98) rfl rfl rfl (by exact fc_enters_98) ?_
  intro g F
  try dsimp only [List.cons_append, List.nil_append, heapL, heapLF]
  refine r_seq ?_
  refine r_reg ?_
  refine ws (st_po (po_assign rfl) rfl rfl rfl ?_)
  refine ws (st_po (po_assign rfl) rfl rfl rfl ?_)
  refine ws (st_po (po_assign rfl) rfl rfl rfl ?_)
  refine s_nil ?_
  refine at_then_wp ?_
  refine r_seq ?_
  refine r_reg ?_
  refine ws (st_po (po_move rfl) rfl rfl rfl ?_)
  refine ws (st_call (co_fn rfl rfl) (heap_Top0 b v) (by infer_instance) rfl rfl rfl ?_)
  rintro v8 _ ⟨rfl, rfl⟩
  try dsimp only [List.cons_append, List.nil_append, heapL, heapLF]
  refine ws (st_po (po_move rfl) rfl rfl rfl ?_)
  refine ws (st_po (po_extract rfl rfl) rfl rfl rfl ?_)
  refine ws (st_po (po_extract rfl rfl) rfl rfl rfl ?_)
  refine ws (st_po (po_extract rfl rfl) rfl rfl rfl ?_)
  refine ws (st_po (po_assign rfl) rfl rfl rfl ?_)
  refine ws (st_po (po_assign rfl) rfl rfl rfl ?_)
  refine ws (st_po (po_assign rfl) rfl rfl rfl ?_)
  refine s_nil ?_
  refine at_then_wp ?_
  refine r_seq ?_
  refine r_seq ?_
  refine r_reg ?_
  refine ws (st_po (po_move rfl) rfl rfl rfl ?_)
  refine s_nil ?_
  refine at_then_wp ?_
  refine r_cond_f rfl (rfl) ?_
  refine r_skip ?_
  refine at_then_wp ?_
  refine r_seq ?_
  refine r_reg ?_
  refine ws (st_po (po_move rfl) rfl rfl rfl ?_)
  refine ws (st_po (po_move rfl) rfl rfl rfl ?_)
  refine ws (st_po (po_move rfl) rfl rfl rfl ?_)
  refine ws (st_po (po_assign rfl) rfl rfl rfl ?_)
  refine ws (st_po (po_assign rfl) rfl rfl rfl ?_)
  refine ws (st_po (po_assign rfl) rfl rfl rfl ?_)
  refine s_nil ?_
  refine at_then_wp ?_
  refine r_ret ?_
  refine at_ret3 rfl (rv_tmp rfl) (rv_tmp rfl) (rv_tmp rfl) ⟨_, ⟨rfl, rfl⟩, ?_⟩
  try dsimp only [List.cons_append, List.nil_append, heapL, heapLF]
  exact ent
end Hd
end
section
namespace Hd
set_option maxRecDepth 100000
open Go

/-- a slice's value -/
structure SlV where
  a : Option Addr
  l : Nat
  c : Nat
def SlV.v (x : SlV) : Value := .slice x.a x.l x.c
/-- a sector as it was rebuilt last -/
structure PartS where
  ver : Int
  n : SlV
  nodes : List Int
  d : SlV
  dist : List Int
def eP : Enc PartS := ⟨124, 3, fun x => [.int .i64 x.ver, x.n.v, x.d.v], fun _ => rfl, by decide, by simp [Value.oneCell', SlV.v]⟩
abbrev slP (x : PartS) : HP := All [Sl eI x.n.v x.nodes, Sl eW x.d.v x.dist]
section
variable {P : Program} {g : Gl} {n : Nat} {env : Env} {L : List HP} {dst : Option Tmp} {ty : TypeId} {pos : String} {af : Array Edge} {gd : Option (Nat × Bool)}
theorem st_eP {s : Value} {xs : List PartS} {R : List HP} {t : TypeId} {x z : Operand} {i : Nat} {y : PartS} (hx : env.ev x = some (ead s i 3 0)) (hz : env.ev z = some (.agg [.int .i64 y.ver, y.n.v, y.d.v].toArray)) [m : HasSl L s PartS eP xs R] (hi : i < xs.length) (ht : aggB P t 3 = true) :
    SO P g n env L ⟨dst, .store t x z, ty, pos, af, gd⟩ (Sl eP s (xs.set i y) :: R) := so_storea_sl (E := eP) (y' := y) hx hz hi ht
end
/-- a mesh: where it lies, its grid, its parts -/
structure MeshS where
  b : Nat
  g : GridS
  pv : Value
  ps : List PartS
  clean : Int
  count : Int
abbrev MeshS.p (m : MeshS) : Value := .pointer (some ⟨m.b, 0, none⟩)
abbrev MeshS.l (m : MeshS) : List HP := [Blk m.b 101 [m.g.p, m.pv, .int .i64 m.clean, .int .u64 m.count], Sl eP m.pv m.ps, All (m.ps.map slP),
  Blk m.g.b 81 [.int .i64 m.g.w, .int .i64 m.g.h, m.g.cv, .int .i64 m.g.ep, m.g.vv], Sl eB m.g.cv m.g.c, Sl eL m.g.vv m.g.vs]
abbrev MeshS.lF (m : MeshS) (F : HP) : List HP := [Blk m.b 101 [m.g.p, m.pv, .int .i64 m.clean, .int .u64 m.count], Sl eP m.pv m.ps, All (m.ps.map slP),
  Blk m.g.b 81 [.int .i64 m.g.w, .int .i64 m.g.h, m.g.cv, .int .i64 m.g.ep, m.g.vv], Sl eB m.g.cv m.g.c, Sl eL m.g.vv m.g.vs, F]

theorem tally_Add (a : Int) (h0 : 0 ≤ a) (h1 : a ≤ 18446744073709551615) : Spec PP 64 #[.int .u64 a, .int .u64 1] [] (fun v M => (∃ r : Int, v = .int .u64 r ∧ r = min (a + 1) 18446744073709551615) ∧ M = []) := by
  refine spec_of (Go.Proofs.Tryz.func64) rfl rfl rfl (by exact fc_enters_64) ?_
  intro g F
  try dsimp only [List.cons_append, List.nil_append, GridS.l, GridS.p, MeshS.l, MeshS.lF, MeshS.p]
  refine r_seq ?_
  refine r_reg ?_
  refine ws (st_po (po_assign rfl) rfl rfl rfl ?_)
  refine s_nil ?_
  refine at_then_wp ?_
  refine r_seq ?_
  refine r_seq ?_
  refine r_reg ?_
  refine ws (st_po (po_move rfl) rfl rfl rfl ?_)
  refine ws (st_po (po_move rfl) rfl rfl rfl ?_)
  refine ws (st_po (po_sub_w rfl rfl (wrap_u64 _ (by omega) (by omega))) rfl rfl rfl ?_)
  refine ws (st_po (po_gt rfl rfl) rfl rfl rfl ?_)
  refine s_nil ?_
  refine at_then_wp ?_
  first | refine r_cond_not rfl ?_ ?_ | refine r_cond_dec rfl ?_ ?_ | refine r_cond rfl ?_ ?_
  · intro h
    refine r_seq ?_
    refine r_reg ?_
    refine ws (st_po (po_assign rfl) rfl rfl rfl ?_)
    refine s_nil ?_
    refine at_then_wp ?_
    refine r_ret ?_
    refine at_then_ret ?_
    refine at_ret1 rfl (rv_tmp rfl) ⟨_, ⟨⟨_, rfl, by omega⟩, rfl⟩, ?_⟩
    try dsimp only [List.cons_append, List.nil_append, GridS.l, GridS.p, MeshS.l, MeshS.lF, MeshS.p]
    exact ent
  · intro h
    refine r_skip ?_
    refine at_then_wp ?_
    refine r_seq ?_
    refine r_reg ?_
    refine ws (st_po (po_move rfl) rfl rfl rfl ?_)
    refine ws (st_po (po_move rfl) rfl rfl rfl ?_)
    refine ws (st_po (po_add_w rfl rfl (wrap_u64 _ (by omega) (by omega))) rfl rfl rfl ?_)
    refine ws (st_po (po_assign rfl) rfl rfl rfl ?_)
    refine s_nil ?_
    refine at_then_wp ?_
    refine r_ret ?_
    refine at_ret1 rfl (rv_tmp rfl) ⟨_, ⟨⟨_, rfl, by omega⟩, rfl⟩, ?_⟩
    try dsimp only [List.cons_append, List.nil_append, GridS.l, GridS.p, MeshS.l, MeshS.lF, MeshS.p]
    exact ent

theorem part_place (pv : Value) (ps : List PartS) (i : Nat) (c : Int) (hi : i < ps.length) (hl : ps[i].nodes.length ≤ 2^30) (hr : Rising ps[i].nodes) :
    Spec PP 149 #[ead pv i 3 0, .int .i64 c] [Sl eP pv ps, Sl eI ps[i].n.v ps[i].nodes]
      (fun v M => (∃ r : Nat, v = .tuple #[.int .i64 r, .bool (decide (c ∈ ps[i].nodes))] ∧ (c ∈ ps[i].nodes → ps[i].nodes[r]? = some c)) ∧ M = [Sl eP pv ps, Sl eI ps[i].n.v ps[i].nodes]) := by
  refine spec_of (Go.Proofs.Tryz.func149) rfl rfl rfl (by exact fc_enters_149) ?_
  intro g F
  try dsimp only [List.cons_append, List.nil_append, GridS.l, GridS.p, MeshS.l, MeshS.lF, MeshS.p]
  refine r_seq ?_
  refine r_reg ?_
  refine ws (st_po (po_assign rfl) rfl rfl rfl ?_)
  refine ws (st_po (po_assign rfl) rfl rfl rfl ?_)
  refine s_nil ?_
  refine at_then_wp ?_
  refine r_seq ?_
  refine r_reg ?_
  refine ws (st_po (po_move rfl) rfl rfl rfl ?_)
  refine ws (st_po (po_nil_sl (E := eP) (xs := ps) rfl (by omega)) rfl rfl rfl ?_)
  refine ws (st_po (po_faddr_sl (E := eP) (xs := ps) rfl (by omega) (by exact fc_field_124_1_1)) rfl rfl rfl ?_)
  refine ws (st_po (po_load_sl (E := eP) (xs := ps) (y := ps[i]) rfl (List.getElem?_eq_getElem hi) (by exact fc_flat_35) (by rfl)) rfl rfl rfl ?_)
  refine ws (st_po (po_move rfl) rfl rfl rfl ?_)
  refine ws (st_call (co_fn rfl rfl) (bin_search ps[i].n.v ps[i].nodes c hl hr) (by infer_instance) rfl rfl rfl ?_)
  rintro v11 _ ⟨⟨r, rfl, hr2⟩, rfl⟩
  try dsimp only [List.cons_append, List.nil_append, GridS.l, GridS.p, MeshS.l, MeshS.lF, MeshS.p]
  refine ws (st_po (po_extract rfl rfl) rfl rfl rfl ?_)
  refine ws (st_po (po_extract rfl rfl) rfl rfl rfl ?_)
  refine ws (st_po (po_assign rfl) rfl rfl rfl ?_)
  refine ws (st_po (po_assign rfl) rfl rfl rfl ?_)
  refine s_nil ?_
  refine at_then_wp ?_
  refine r_ret ?_
  refine at_ret2 rfl (rv_tmp rfl) (rv_tmp rfl) ⟨_, ⟨⟨r, rfl, hr2⟩, rfl⟩, ?_⟩
  try dsimp only [List.cons_append, List.nil_append, GridS.l, GridS.p, MeshS.l, MeshS.lF, MeshS.p]
  exact ent

/-- how far it is from one node to another one -/
theorem part_between (pv : Value) (ps : List PartS) (i : Nat) (j k : Nat) (hi : i < ps.length) (hl : ps[i].nodes.length ≤ 1024) (hd : ps[i].dist.length = ps[i].nodes.length * ps[i].nodes.length) (hj : j < ps[i].nodes.length) (hk : k < ps[i].nodes.length)
    (hr : ∀ x ∈ ps[i].dist, -1 ≤ x ∧ x ≤ 2147483647) :
    Spec PP 123 #[ead pv i 3 0, .int .i64 j, .int .i64 k] [Sl eP pv ps, Sl eI ps[i].n.v ps[i].nodes, Sl eW ps[i].d.v ps[i].dist]
      (fun v M => v = .int .i64 (if gAt ps[i].dist ((j * ps[i].nodes.length + k : Nat) : Int) = -1 then 1099511627776 else gAt ps[i].dist ((j * ps[i].nodes.length + k : Nat) : Int)) ∧ M = [Sl eP pv ps, Sl eI ps[i].n.v ps[i].nodes, Sl eW ps[i].d.v ps[i].dist]) := by
  have hix := idx_lt hj hk
  have hmul : 0 ≤ (j : Int) * ps[i].nodes.length ∧ (j : Int) * ps[i].nodes.length ≤ 1048576 := mul_1k (by omega) (by omega) (by omega) (by omega)
  have hin : (j : Int) * ps[i].nodes.length + k = ((j * ps[i].nodes.length + k : Nat) : Int) := by simp
  have hlt : (j : Int) * ps[i].nodes.length + k < ps[i].dist.length := by rw [hd, hin]; omega
  have hg : gAt ps[i].dist ((j * ps[i].nodes.length + k : Nat) : Int) = ps[i].dist[((j : Int) * ps[i].nodes.length + k).toNat]'(by omega) := by rw [← hin]; exact gAt_get (by omega)
  have hb := hr _ (List.getElem_mem (show ((j : Int) * ps[i].nodes.length + k).toNat < ps[i].dist.length by omega))
  refine spec_of (Go.Proofs.Tryz.func123) rfl rfl rfl (by exact fc_enters_123) ?_
  intro g F
  try dsimp only [List.cons_append, List.nil_append, GridS.l, GridS.p, MeshS.l, MeshS.lF, MeshS.p]
  refine r_seq ?_
  refine r_reg ?_
  refine ws (st_po (po_assign rfl) rfl rfl rfl ?_)
  refine s_nil ?_
  refine at_then_wp ?_
  refine r_seq ?_
  refine r_seq ?_
  refine r_ord [] _ [(0, 1), (1, 0), (2, 0), (3, 0), (4, 1), (5, 1), (6, 0), (7, 0), (8, 0), (9, 0), (10, 1), (11, 1), (12, 1), (13, 0), (14, 0), (15, 1)] fc_mixed (by kernel_rfl) (fun _ h => h) ?_
  refine o_fr rfl (po_move rfl) rfl rfl rfl ?_
  refine o_rd rfl (po_nil_sl (E := eP) (xs := ps) rfl (by omega)) (by first | exact fun _ h => h | exact ent) rfl rfl rfl ?_
  refine o_rd rfl (po_faddr_sl (E := eP) (xs := ps) rfl (by omega) (by exact fc_field_124_2_2)) (by first | exact fun _ h => h | exact ent) rfl rfl rfl ?_
  refine o_rd rfl (po_load_sl (E := eP) (xs := ps) (y := ps[i]) rfl (List.getElem?_eq_getElem hi) (by exact fc_flat_82) (by rfl)) (by first | exact fun _ h => h | exact ent) rfl rfl rfl ?_
  refine o_fr rfl (po_move rfl) rfl rfl rfl ?_
  refine o_fr rfl (po_move rfl) rfl rfl rfl ?_
  refine o_rd rfl (po_nil_sl (E := eP) (xs := ps) rfl (by omega)) (by first | exact fun _ h => h | exact ent) rfl rfl rfl ?_
  refine o_rd rfl (po_faddr_sl (E := eP) (xs := ps) rfl (by omega) (by exact fc_field_124_1_1)) (by first | exact fun _ h => h | exact ent) rfl rfl rfl ?_
  refine o_rd rfl (po_load_sl (E := eP) (xs := ps) (y := ps[i]) rfl (List.getElem?_eq_getElem hi) (by exact fc_flat_35) (by rfl)) (by first | exact fun _ h => h | exact ent) rfl rfl rfl ?_
  refine o_rd rfl (po_len rfl (by exact fc_slice_35_3_1)) (by first | exact fun _ h => h | exact ent) rfl rfl rfl ?_
  refine o_fr rfl (po_mul' rfl rfl (by omega) (by omega)) rfl rfl rfl ?_
  refine o_fr rfl (po_move rfl) rfl rfl rfl ?_
  refine o_fr rfl (po_add' rfl rfl (by omega) (by omega)) rfl rfl rfl ?_
  refine o_rd rfl (po_iaddr rfl rfl (by exact fc_slice_82_21_1) (by first | omega | (simp only [List.length_nil, List.length_cons, List.length_append, List.length_replicate, List.length_set, List.length_map, List.length_take, List.length_drop]; omega)) (by first | omega | (simp only [List.length_nil, List.length_cons, List.length_append, List.length_replicate, List.length_set, List.length_map, List.length_take, List.length_drop]; omega))) (by first | exact fun _ h => h | exact ent) rfl rfl rfl ?_
  refine o_rd rfl (po_load_sl rfl (List.getElem?_eq_getElem (by first | omega | (simp only [List.length_nil, List.length_cons, List.length_append, List.length_replicate, List.length_set, List.length_map, List.length_take, List.length_drop]; omega))) (by exact fc_flat_21) (by rfl)) (by first | exact fun _ h => h | exact ent) rfl rfl rfl ?_
  refine o_fr rfl (po_assign rfl) rfl rfl rfl ?_
  refine o_nil ?_
  refine at_then_wp ?_
  refine r_seq ?_
  refine r_reg ?_
  refine ws (st_po (po_move rfl) rfl rfl rfl ?_)
  refine ws (st_po (po_ne rfl rfl) rfl rfl rfl ?_)
  refine s_nil ?_
  refine at_then_wp ?_
  first | refine r_cond_not rfl ?_ ?_ | refine r_cond_dec rfl ?_ ?_ | refine r_cond rfl ?_ ?_
  · intro hf
    refine r_seq ?_
    refine r_reg ?_
    refine ws (st_po (po_move rfl) rfl rfl rfl ?_)
    refine ws (st_po (po_conv_w rfl (by exact fc_int_21_i32) (by exact fc_int_3_i64) (wrap_i64 _ (by omega) (by omega))) rfl rfl rfl ?_)
    refine ws (st_po (po_assign rfl) rfl rfl rfl ?_)
    refine s_nil ?_
    refine at_then_wp ?_
    refine r_ret ?_
    refine at_then_ret ?_
    refine at_ret1 rfl (rv_tmp rfl) ⟨_, ⟨by rw [hg, if_neg hf], rfl⟩, ?_⟩
    try dsimp only [List.cons_append, List.nil_append, GridS.l, GridS.p, MeshS.l, MeshS.lF, MeshS.p]
    exact ent
  · intro hf
    refine r_skip ?_
    refine at_then_wp ?_
    refine r_seq ?_
    refine r_reg ?_
    refine ws (st_po (po_assign rfl) rfl rfl rfl ?_)
    refine s_nil ?_
    refine at_then_wp ?_
    refine r_ret ?_
    refine at_ret1 rfl (rv_tmp rfl) ⟨_, ⟨by rw [hg, if_pos (Classical.not_not.1 hf)], rfl⟩, ?_⟩
    try dsimp only [List.cons_append, List.nil_append, GridS.l, GridS.p, MeshS.l, MeshS.lF, MeshS.p]
    exact ent
end Hd
end
section
namespace Hd
open Go
/-! ## a sector's tile -/
theorem global_row {w h s x : Int} {y : Nat} (k : IsS w h s) (hy : (y : Int) < (sizeN w h s).2) (hx : 0 ≤ x ∧ x < (sizeN w h s).1) :
    globalN w h s (y * (sizeN w h s).1 + x) = globalN w h s (y * (sizeN w h s).1) + x := by
  have hp := size_pos k
  have h1 := mul_lt (a := x) (b := (y : Int)) (c := (sizeN w h s).1) (d := (sizeN w h s).2) hx.1 hx.2 (by omega) hy
  have h2 := mul_lt (a := 0) (b := (y : Int)) (c := (sizeN w h s).1) (d := (sizeN w h s).2) (by omega) (by omega) (by omega) hy
  have d1 := xy_div (w := (sizeN w h s).1) (x := x) (y := (y : Int)) hx.1 hx.2
  have d2 := xy_div (w := (sizeN w h s).1) (x := 0) (y := (y : Int)) (by omega) (by omega)
  rw [Int.add_zero] at d2 h2
  rw [globalN, if_pos ⟨k, h1⟩, globalN, if_pos ⟨k, h2⟩, d1.1, d1.2, d2.1, d2.2]
  omega
theorem rowN_get {s : GridS} (ok : GridOk s) {i : Int} (hi : IsS s.w s.h i) {y x : Nat} (hy : (y : Int) < (sizeN s.w s.h i).2) (hx : (x : Int) < (sizeN s.w s.h i).1) :
    (rowN s.w s.h i s.c y)[x]? = some (gAt s.c (globalN s.w s.h i (y * (sizeN s.w s.h i).1 + x))) := by
  have hr := row_ok ok hi y hy
  have hp := size_pos hi
  rw [global_row hi hy ⟨by omega, hx⟩, rowN, List.getElem?_drop, List.getElem?_take, if_pos (by omega), gAt_get (by omega), List.getElem?_eq_getElem (by omega)]
  congr 2; omega
theorem rowN_len {s : GridS} (ok : GridOk s) {i : Int} (hi : IsS s.w s.h i) {y : Nat} (hy : (y : Int) < (sizeN s.w s.h i).2) : ((rowN s.w s.h i s.c y).length : Int) = (sizeN s.w s.h i).1 := by
  have hr := row_ok ok hi y hy
  have hp := size_pos hi
  rw [rowN, List.length_drop, List.length_take]; omega
theorem rows_get {s : GridS} (ok : GridOk s) {i : Int} (hi : IsS s.w s.h i) : ∀ (k : Nat), (k : Int) ≤ (sizeN s.w s.h i).2 → ∀ (y x : Nat), y < k → (x : Int) < (sizeN s.w s.h i).1 →
    (rowsN s.w s.h i s.c k)[y * (sizeN s.w s.h i).1.toNat + x]? = some (gAt s.c (globalN s.w s.h i (y * (sizeN s.w s.h i).1 + x)))
  | 0, _, y, x, h, _ => by omega
  | k + 1, hk, y, x, h, hx => by
    have hp := size_pos hi
    have hl := rows_len ok hi k (by omega)
    have hrl := rowN_len ok hi (y := k) (by omega)
    have hl' : (rowsN s.w s.h i s.c k).length = k * (sizeN s.w s.h i).1.toNat := by
      have : (((k * (sizeN s.w s.h i).1.toNat : Nat)) : Int) = k * (sizeN s.w s.h i).1 := by rw [Int.natCast_mul, Int.toNat_of_nonneg (by omega)]
      omega
    rw [rowsN_succ]
    by_cases e : y < k
    · have h1 : y * (sizeN s.w s.h i).1.toNat + x < k * (sizeN s.w s.h i).1.toNat := by
        have : (y + 1) * (sizeN s.w s.h i).1.toNat ≤ k * (sizeN s.w s.h i).1.toNat := Nat.mul_le_mul_right _ e
        rw [Nat.succ_mul] at this; omega
      rw [List.getElem?_append_left (by omega)]
      exact rows_get ok hi k (by omega) y x e hx
    · have : y = k := by omega
      subst this
      rw [List.getElem?_append_right (by omega), hl', Nat.add_sub_cancel_left]
      exact rowN_get ok hi (by omega) hx
theorem tile_len {s : GridS} (ok : GridOk s) {i : Int} (hi : IsS s.w s.h i) : ((tileN s i).c.length : Int) = (sizeN s.w s.h i).1 * (sizeN s.w s.h i).2 := by
  have hp := size_pos hi
  have := rows_len ok hi (sizeN s.w s.h i).2.toNat (by omega)
  show ((rowsN s.w s.h i s.c (sizeN s.w s.h i).2.toNat).length : Int) = _
  rw [this, Int.toNat_of_nonneg (by omega), Int.mul_comm]
theorem tile_at {s : GridS} (ok : GridOk s) {i l : Int} (hi : IsS s.w s.h i) (h0 : 0 ≤ l) (h1 : l < (sizeN s.w s.h i).1 * (sizeN s.w s.h i).2) : gAt (tileN s i).c l = gAt s.c (globalN s.w s.h i l) := by
  have hp := size_pos hi
  have hg := (global_xy hi h0 h1).2.2
  have hd := div_mod_eq (l := l) (tw := (sizeN s.w s.h i).1) (by omega)
  have hr := rows_get ok hi (sizeN s.w s.h i).2.toNat (by omega) (l / (sizeN s.w s.h i).1).toNat (l % (sizeN s.w s.h i).1).toNat (by omega) (by omega)
  rw [Int.toNat_of_nonneg hg.2.1, Int.toNat_of_nonneg hg.1.1, ← hd] at hr
  have e : (l / (sizeN s.w s.h i).1).toNat * (sizeN s.w s.h i).1.toNat + (l % (sizeN s.w s.h i).1).toNat = l.toNat := by
    have e1 : (((l / (sizeN s.w s.h i).1).toNat * (sizeN s.w s.h i).1.toNat + (l % (sizeN s.w s.h i).1).toNat : Nat) : Int) = l := by
      rw [Int.natCast_add, Int.natCast_mul, Int.toNat_of_nonneg hg.2.1, Int.toNat_of_nonneg hg.1.1, Int.toNat_of_nonneg (by omega)]; exact hd.symm
    omega
  rw [e] at hr
  show gAt (rowsN s.w s.h i s.c (sizeN s.w s.h i).2.toNat) l = _
  unfold gAt at hr ⊢
  rw [List.getD_eq_getElem?_getD, hr]; rfl
theorem tile_mem {s : GridS} (ok : GridOk s) {i : Int} (hi : IsS s.w s.h i) : ∀ x ∈ (tileN s i).c, 1 ≤ x ∧ x ≤ 255 := by
  intro x hx
  have hm : ∀ k, x ∈ rowsN s.w s.h i s.c k → x ∈ s.c := by
    intro k h
    obtain ⟨y, -, hy⟩ := List.mem_flatMap.1 h
    exact List.mem_of_mem_take (List.mem_of_mem_drop hy)
  exact ok.bt x (hm _ hx)
theorem tile_may {s : GridS} (ok : GridOk s) {i : Int} (hi : IsS s.w s.h i) : MayT (tileN s i) := by
  have hp := size_pos hi
  have hz := size_le s.w s.h i
  refine ⟨⟨by show 1 ≤ (sizeN s.w s.h i).1; omega, by show (sizeN s.w s.h i).1 ≤ 16; omega⟩, ⟨by show 1 ≤ (sizeN s.w s.h i).2; omega, by show (sizeN s.w s.h i).2 ≤ 16; omega⟩, tile_len ok hi, fun h => ?_⟩
  have := tile_mem ok hi 0 h; omega
/-! ## nodes -/
theorem open_iff {s : GridS} (ok : GridOk s) {c : Int} : openN s.c c ↔ Opn s.c c := by
  unfold openN Opn costN
  by_cases e : 0 ≤ c ∧ c < s.c.length
  · rw [if_pos e]
    have := ok.bt _ (List.getElem_mem (show c.toNat < s.c.length by omega))
    rw [← gAt_get] at this
    constructor
    · rintro ⟨h1, h2⟩; exact ⟨e.1, e.2, by show gAt s.c c ≠ 255; have : cAt s.c c < 255 := h2; show cAt s.c c ≠ 255; omega⟩
    · rintro ⟨h1, h2, h3⟩; exact ⟨by show 0 < gAt s.c c; omega, by show gAt s.c c < 255; omega⟩
  · rw [if_neg e]
    exact ⟨fun h => by omega, fun h => absurd ⟨h.1, h.2.1⟩ e⟩
def locsN (w h : Int) (c : List Int) (s : Int) : List Nat := (List.range (secN w h s)).filter fun l => edgeTo w h s 4 l && decide (openN c (globalN w h s l))
theorem nodes_eq (w h : Int) (c : List Int) (s : Int) : nodesN w h c s = (locsN w h c s).map fun (l : Nat) => globalN w h s l := by
  unfold nodesN cellsN cellsTo locsN
  rw [List.filter_map, List.filter_filter]
  congr 1
  apply List.filter_congr
  intro x _
  simp [Bool.and_comm]
theorem locs_lt {w h : Int} {c : List Int} {s : Int} {l : Nat} (hl : l ∈ locsN w h c s) : (l : Int) < (sizeN w h s).1 * (sizeN w h s).2 := by
  have := List.mem_range.1 (List.mem_filter.1 hl).1
  have hs := secN_eq w h s
  omega
theorem locals_eq {w h : Int} {c : List Int} {s : Int} (hs : IsS w h s) : (nodesN w h c s).map (localN w h) = (locsN w h c s).map fun (l : Nat) => (l : Int) := by
  rw [nodes_eq, List.map_map]
  apply List.map_congr_left
  intro l hl
  exact local_global hs (by omega) (locs_lt hl)
theorem locs_pw (w h : Int) (c : List Int) (s : Int) : (locsN w h c s).Pairwise (· < ·) := List.Pairwise.filter _ List.pairwise_lt_range
theorem rising_of_pw {l : List Int} (h : l.Pairwise (· < ·)) : Rising l := fun i j hi hj hij => List.pairwise_iff_getElem.1 h i j hi hj hij
theorem global_mono {w h s : Int} (hs : IsS w h s) {a b : Int} (h0 : 0 ≤ a) (hab : a < b) (hb : b < (sizeN w h s).1 * (sizeN w h s).2) : globalN w h s a < globalN w h s b := by
  have hp := size_pos hs
  have ga := global_xy hs h0 (by omega)
  have gb := global_xy hs (show 0 ≤ b by omega) hb
  have da := div_mod_eq (l := a) (tw := (sizeN w h s).1) (by omega)
  have db := div_mod_eq (l := b) (tw := (sizeN w h s).1) (by omega)
  rw [globalN, if_pos ⟨hs, h0, by omega⟩, globalN, if_pos ⟨hs, by omega, hb⟩]
  have hle : a / (sizeN w h s).1 ≤ b / (sizeN w h s).1 := Int.ediv_le_ediv (by omega) (by omega)
  rcases Int.lt_or_eq_of_le hle with e | e
  · have h1 : (s / acrN w * 16 + a / (sizeN w h s).1 + 1) * w ≤ (s / acrN w * 16 + b / (sizeN w h s).1) * w := Int.mul_le_mul_of_nonneg_right (by omega) (by have := hs.1; omega)
    rw [Int.add_mul, Int.one_mul] at h1
    omega
  · rw [e] at da ⊢; omega
theorem nodes_rising {w h : Int} {c : List Int} {s : Int} (hs : IsS w h s) : Rising (nodesN w h c s) := by
  apply rising_of_pw
  rw [nodes_eq, List.pairwise_map]
  refine List.Pairwise.imp_of_mem (fun {a b} ha hb hab => ?_) (locs_pw w h c s)
  exact global_mono hs (by omega) (by omega) (locs_lt hb)
theorem locals_rising {w h : Int} {c : List Int} {s : Int} (hs : IsS w h s) : Rising ((nodesN w h c s).map (localN w h)) := by
  apply rising_of_pw
  rw [locals_eq hs, List.pairwise_map]
  exact List.Pairwise.imp (fun h => by omega) (locs_pw w h c s)
theorem locs_ok {s : GridS} (ok : GridOk s) {i : Int} (hi : IsS s.w s.h i) : LocsOk (tileN s i) ((nodesN s.w s.h s.c i).map (localN s.w s.h)) := by
  refine ⟨tile_may ok hi, tile_mem ok hi, fun x hx => ?_, locals_rising hi⟩
  rw [locals_eq hi] at hx
  obtain ⟨l, hl, rfl⟩ := List.mem_map.1 hx
  have hlt := locs_lt hl
  have ho := (List.mem_filter.1 hl).2
  simp only [Bool.and_eq_true, decide_eq_true_eq] at ho
  have ho2 := (open_iff ok).1 ho.2
  exact ⟨by omega, by rw [tile_len ok hi]; exact hlt, by rw [tile_at ok hi (by omega) hlt]; exact ho2.2.2⟩
end Hd
end
section
namespace Hd
theorem cnt_lt {α : Type} (p q : α → Bool) (hpq : ∀ x, p x = true → q x = true) : ∀ (l : List α) (m : α), m ∈ l → q m = true → p m = false → l.countP p + 1 ≤ l.countP q
  | [], m, h, _, _ => by cases h
  | x :: l, m, h, hq, hp => by
    have hle : l.countP p ≤ l.countP q := List.countP_mono_left fun x _ hx => hpq x hx
    rcases List.mem_cons.1 h with e | e
    · subst e; rw [List.countP_cons, List.countP_cons, hq, hp]; simp; exact hle
    · have ih := cnt_lt p q hpq l m e hq hp
      rw [List.countP_cons, List.countP_cons]
      by_cases e2 : p x = true
      · rw [if_pos e2, if_pos (hpq x e2)]; omega
      · rw [if_neg e2]; omega
/-- finite distances are not great -/
theorem dist_bound {w h : Int} {C : List Int} {src : Int → Int → Prop} {d : Int → Int} {K : Int} (hC : ∀ x ∈ C, 1 ≤ x ∧ x ≤ 255) (hd : IsDist w h C src d) (hK : ∀ c k, src c k → k ≤ K) (hK0 : 0 ≤ K) : ∀ c, d c < INF → d c ≤ K + 255 * C.length := by
  have key : ∀ (n : Nat) (c : Int), d c < INF → d c ≤ n → d c ≤ K + 255 * (((List.range C.length).countP fun (i : Nat) => decide (d i < d c)) : Nat) := by
    intro n
    induction n using Nat.strongRecOn with
    | _ n ih =>
      intro c hlt hle
      rcases hd.tight c with e | e | ⟨m, hm, hml, e⟩
      · omega
      · have := hK _ _ e; omega
      · have hmo := hm.1
        have hl : m.toNat < C.length := by unfold Opn at hmo; omega
        have hc := hC _ (List.getElem_mem hl)
        rw [← gAt_get] at hc
        have hr := hd.rng m
        have h0 : 0 ≤ d m := by omega
        have hmm : ((m.toNat : Nat) : Int) = m := Int.toNat_of_nonneg hmo.1
        have := ih (d m).toNat (by omega) m hml (by omega)
        have hcnt := cnt_lt (fun i : Nat => decide (d i < d m)) (fun i : Nat => decide (d i < d c)) (fun x hx => by simp at hx ⊢; omega) (List.range C.length) m.toNat (List.mem_range.2 hl) (by simp [hmm]; omega) (by simp [hmm])
        omega
  intro c hlt
  have h1 := key (d c).toNat c hlt (by have := hd.rng c; omega)
  have h2 : ((List.range C.length).countP fun (i : Nat) => decide (d i < d c)) ≤ C.length := Nat.le_trans List.countP_le_length (by simp)
  omega
end Hd
end
