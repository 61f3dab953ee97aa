/- Contracts of functions of the program, and the laws of memory that they are proved with: part 1. -/
import Derived.Test.YtnaiebnnogkbnaaGreatE0
set_option linter.unusedVariables false
set_option linter.unusedSimpArgs false
section
namespace Hd
set_option maxRecDepth 100000
open Go

theorem clone_B (s : Value) (xs : List Int) (hl : xs.length ≤ 2^30) : Spec PP 60 #[s] [Sl eB s xs] (fun v M => M = [Sl eB s xs, Sl eB v xs]) := by
  refine spec_of (Go.Proofs.Tryz.func60) rfl rfl rfl (by exact fc_enters_60) ?_
  intro g F
  try dsimp only [List.cons_append, List.nil_append]
  refine r_seq ?_
  refine r_reg ?_
  refine ws (st_po (po_assign rfl) rfl rfl rfl ?_)
  refine s_nil ?_
  refine at_then_wp ?_
  refine r_seq ?_
  refine r_seq ?_
  refine r_reg ?_
  refine ws (st_po (po_move rfl) rfl rfl rfl ?_)
  refine ws (st_po (po_seq rfl rfl (by exact fc_slice_22_5_1)) rfl rfl rfl ?_)
  refine s_nil ?_
  refine at_then_wp ?_
  first | refine r_cond_not rfl ?_ ?_ | refine r_cond_dec rfl ?_ ?_ | refine r_cond rfl ?_ ?_
  · intro hn
    refine wp_pure (rd_nil (E := eB) hn) (fun e => ?_)
    subst e
    refine r_seq ?_
    refine r_reg ?_
    refine ws (st_po (po_assign rfl) rfl rfl rfl ?_)
    refine s_nil ?_
    refine at_then_wp ?_
    refine r_ret ?_
    refine at_then_ret ?_
    refine at_ret1 rfl (rv_tmp rfl) ⟨_, rfl, ?_⟩
    try dsimp only [List.cons_append, List.nil_append]
    exact ent
  · intro hn
    refine r_skip ?_
    refine at_then_wp ?_
    refine r_seq ?_
    refine r_reg ?_
    refine ws (st_xo (xo_bslice eB [] rfl (by exact fc_slice_22_5_1) (by exact fc_elem_5_1_1) trivial rfl (by decide)) rfl rfl rfl ?_)
    rintro v5 _ rfl
    refine ws (st_po (po_move rfl) rfl rfl rfl ?_)
    refine ws (st_xo (xo_append rfl rfl (by exact fc_slice_22_5_1) (by exact fc_slice_22_5_1) (by exact fc_elem_5_1_1) (by first | omega | (simp only [List.length_nil, List.length_cons, List.length_append, List.length_replicate, List.length_set, List.length_map, List.length_take, List.length_drop]; omega)) (by first | omega | (simp only [List.length_nil, List.length_cons, List.length_append, List.length_replicate, List.length_set, List.length_map, List.length_take, List.length_drop]; omega))) rfl rfl rfl ?_)
    rintro v7 _ rfl
    refine ws (st_po (po_assign rfl) rfl rfl rfl ?_)
    refine s_nil ?_
    refine at_then_wp ?_
    refine r_ret ?_
    refine at_ret1 rfl (rv_tmp rfl) ⟨_, rfl, ?_⟩
    try dsimp only [List.cons_append, List.nil_append]
    exact ent

theorem clone_S (s : Value) (xs : List Seed) (hl : xs.length ≤ 2^30) : Spec PP 75 #[s] [Sl eS s xs] (fun v M => M = [Sl eS s xs, Sl eS v xs]) := by
  refine spec_of (Go.Proofs.Tryz.func75) rfl rfl rfl (by exact fc_enters_75) ?_
  intro g F
  try dsimp only [List.cons_append, List.nil_append]
  refine r_seq ?_
  refine r_reg ?_
  refine ws (st_po (po_assign rfl) rfl rfl rfl ?_)
  refine s_nil ?_
  refine at_then_wp ?_
  refine r_seq ?_
  refine r_seq ?_
  refine r_reg ?_
  refine ws (st_po (po_move rfl) rfl rfl rfl ?_)
  refine ws (st_po (po_seq rfl rfl (by exact fc_slice_32_45_3)) rfl rfl rfl ?_)
  refine s_nil ?_
  refine at_then_wp ?_
  first | refine r_cond_not rfl ?_ ?_ | refine r_cond_dec rfl ?_ ?_ | refine r_cond rfl ?_ ?_
  · intro hn
    refine wp_pure (rd_nil (E := eS) hn) (fun e => ?_)
    subst e
    refine r_seq ?_
    refine r_reg ?_
    refine ws (st_po (po_assign rfl) rfl rfl rfl ?_)
    refine s_nil ?_
    refine at_then_wp ?_
    refine r_ret ?_
    refine at_then_ret ?_
    refine at_ret1 rfl (rv_tmp rfl) ⟨_, rfl, ?_⟩
    try dsimp only [List.cons_append, List.nil_append]
    exact ent
  · intro hn
    refine r_skip ?_
    refine at_then_wp ?_
    refine r_seq ?_
    refine r_reg ?_
    refine ws (st_xo (xo_bslice eS [] rfl (by exact fc_slice_32_45_3) (by exact fc_elem_45_3_24) trivial rfl (by decide)) rfl rfl rfl ?_)
    rintro v5 _ rfl
    refine ws (st_po (po_move rfl) rfl rfl rfl ?_)
    refine ws (st_xo (xo_append rfl rfl (by exact fc_slice_32_45_3) (by exact fc_slice_32_45_3) (by exact fc_elem_45_3_24) (by first | omega | (simp only [List.length_nil, List.length_cons, List.length_append, List.length_replicate, List.length_set, List.length_map, List.length_take, List.length_drop]; omega)) (by first | omega | (simp only [List.length_nil, List.length_cons, List.length_append, List.length_replicate, List.length_set, List.length_map, List.length_take, List.length_drop]; omega))) rfl rfl rfl ?_)
    rintro v7 _ rfl
    refine ws (st_po (po_assign rfl) rfl rfl rfl ?_)
    refine s_nil ?_
    refine at_then_wp ?_
    refine r_ret ?_
    refine at_ret1 rfl (rv_tmp rfl) ⟨_, rfl, ?_⟩
    try dsimp only [List.cons_append, List.nil_append]
    exact ent

theorem clone_I (s : Value) (xs : List Int) (hl : xs.length ≤ 2^30) : Spec PP 118 #[s] [Sl eI s xs] (fun v M => M = [Sl eI s xs, Sl eI v xs]) := by
  refine spec_of (Go.Proofs.Tryz.func118) rfl rfl rfl (by exact fc_enters_118) ?_
  intro g F
  try dsimp only [List.cons_append, List.nil_append]
  refine r_seq ?_
  refine r_reg ?_
  refine ws (st_po (po_assign rfl) rfl rfl rfl ?_)
  refine s_nil ?_
  refine at_then_wp ?_
  refine r_seq ?_
  refine r_seq ?_
  refine r_reg ?_
  refine ws (st_po (po_move rfl) rfl rfl rfl ?_)
  refine ws (st_po (po_seq rfl rfl (by exact fc_slice_35_3_1)) rfl rfl rfl ?_)
  refine s_nil ?_
  refine at_then_wp ?_
  first | refine r_cond_not rfl ?_ ?_ | refine r_cond_dec rfl ?_ ?_ | refine r_cond rfl ?_ ?_
  · intro hn
    refine wp_pure (rd_nil (E := eI) hn) (fun e => ?_)
    subst e
    refine r_seq ?_
    refine r_reg ?_
    refine ws (st_po (po_assign rfl) rfl rfl rfl ?_)
    refine s_nil ?_
    refine at_then_wp ?_
    refine r_ret ?_
    refine at_then_ret ?_
    refine at_ret1 rfl (rv_tmp rfl) ⟨_, rfl, ?_⟩
    try dsimp only [List.cons_append, List.nil_append]
    exact ent
  · intro hn
    refine r_skip ?_
    refine at_then_wp ?_
    refine r_seq ?_
    refine r_reg ?_
    refine ws (st_xo (xo_bslice eI [] rfl (by exact fc_slice_35_3_1) (by exact fc_elem_3_1_8) trivial rfl (by decide)) rfl rfl rfl ?_)
    rintro v5 _ rfl
    refine ws (st_po (po_move rfl) rfl rfl rfl ?_)
    refine ws (st_xo (xo_append rfl rfl (by exact fc_slice_35_3_1) (by exact fc_slice_35_3_1) (by exact fc_elem_3_1_8) (by first | omega | (simp only [List.length_nil, List.length_cons, List.length_append, List.length_replicate, List.length_set, List.length_map, List.length_take, List.length_drop]; omega)) (by first | omega | (simp only [List.length_nil, List.length_cons, List.length_append, List.length_replicate, List.length_set, List.length_map, List.length_take, List.length_drop]; omega))) rfl rfl rfl ?_)
    rintro v7 _ rfl
    refine ws (st_po (po_assign rfl) rfl rfl rfl ?_)
    refine s_nil ?_
    refine at_then_wp ?_
    refine r_ret ?_
    refine at_ret1 rfl (rv_tmp rfl) ⟨_, rfl, ?_⟩
    try dsimp only [List.cons_append, List.nil_append]
    exact ent

/-- the first place of a byte; -1 -/
theorem index_B (s : Value) (xs : List Int) (y : Int) (hl : xs.length ≤ 2^30) : Spec PP 115 #[s, .int .u8 y] [Sl eB s xs] (fun v M => (∃ r : Int, v = .int .i64 r ∧ -1 ≤ r ∧ (0 ≤ r ↔ y ∈ xs)) ∧ M = [Sl eB s xs]) := by
  refine spec_of (Go.Proofs.Tryz.func115) rfl rfl rfl (by exact fc_enters_115) ?_
  intro g F
  try dsimp only [List.cons_append, List.nil_append]
  refine r_seq ?_
  refine r_reg ?_
  refine ws (st_po (po_assign rfl) rfl rfl rfl ?_)
  refine s_nil ?_
  refine at_then_wp ?_
  refine r_seq ?_
  refine r_seq ?_
  refine r_reg ?_
  refine ws (st_po (po_move rfl) rfl rfl rfl ?_)
  refine ws (st_po (po_len rfl (by exact fc_slice_22_5_1)) rfl rfl rfl ?_)
  refine ws (st_po (po_move rfl) rfl rfl rfl ?_)
  refine s_nil ?_
  refine at_then_wp ?_
  refine r_block ?_
  refine r_loop (S := Nat) (fun k => [(8, .int .i64 k)]) [(0, _), (1, _), (7, _)] (fun k => [Sl eB s xs, F]) (fun k => k ≤ xs.length ∧ ∀ j, (h : j < xs.length) → j < k → xs[j] ≠ y) (fun k => xs.length - k) (0) (And.intro rfl (And.intro rfl (And.intro rfl (trivial)))) (And.intro rfl (trivial)) (⟨by omega, fun j _ h => by omega⟩) ent ?_
  rintro k ⟨hk, hne⟩
  try dsimp only
  refine r_seq ?_
  refine r_reg ?_
  refine ws (st_po (po_lt rfl rfl) rfl rfl rfl ?_)
  refine s_nil ?_
  refine at_then_wp ?_
  refine r_seq ?_
  first | refine r_cond_not rfl ?_ ?_ | refine r_cond_dec rfl ?_ ?_ | refine r_cond rfl ?_ ?_
  · intro hlt
    refine r_skip ?_
    refine at_then_wp ?_
    refine r_seq ?_
    refine r_block ?_
    refine r_seq ?_
    refine r_reg ?_
    refine ws (st_po (po_move rfl) rfl rfl rfl ?_)
    refine ws (st_po (po_assign rfl) rfl rfl rfl ?_)
    refine s_nil ?_
    refine at_then_wp ?_
    refine r_seq ?_
    refine r_reg ?_
    refine ws (st_po (po_move rfl) rfl rfl rfl ?_)
    refine ws (st_po (po_move rfl) rfl rfl rfl ?_)
    refine ws (st_po (po_move rfl) rfl rfl rfl ?_)
    refine ws (st_po (po_iaddr rfl rfl (by exact fc_slice_22_5_1) (by first | omega | (simp only [List.length_nil, List.length_cons, List.length_append, List.length_replicate, List.length_set, List.length_map, List.length_take, List.length_drop]; omega)) (by first | omega | (simp only [List.length_nil, List.length_cons, List.length_append, List.length_replicate, List.length_set, List.length_map, List.length_take, List.length_drop]; omega))) rfl rfl rfl ?_)
    refine ws (st_po (po_load_sl rfl (List.getElem?_eq_getElem (by omega)) (by exact fc_flat_5) (by rfl)) rfl rfl rfl ?_)
    refine ws (st_po (po_eq rfl rfl) rfl rfl rfl ?_)
    refine s_nil ?_
    refine at_then_wp ?_
    first | refine r_cond_not rfl ?_ ?_ | refine r_cond_dec rfl ?_ ?_ | refine r_cond rfl ?_ ?_
    · intro heq
      refine r_seq ?_
      refine r_reg ?_
      refine ws (st_po (po_move rfl) rfl rfl rfl ?_)
      refine ws (st_po (po_assign rfl) rfl rfl rfl ?_)
      refine s_nil ?_
      refine at_then_wp ?_
      refine r_ret ?_
      refine at_block_ret ?_
      refine at_then_ret ?_
      refine at_then_ret ?_
      refine at_block_ret ?_
      refine at_then_ret ?_
      refine at_ret1 rfl (rv_tmp rfl) ⟨_, ⟨⟨_, rfl, by omega, by simp only [Int.natCast_nonneg, true_iff]; rw [heq]; exact List.getElem_mem _⟩, rfl⟩, ?_⟩
      try dsimp only [List.cons_append, List.nil_append]
      exact ent
    · intro heq
      refine r_skip ?_
      refine at_block_normal ?_
      refine at_then_wp ?_
      refine r_reg ?_
      refine ws (st_po (po_add' rfl rfl (by omega) (by omega)) rfl rfl rfl ?_)
      refine ws (st_po (po_move rfl) rfl rfl rfl ?_)
      refine s_nil ?_
      exact at_again (k + 1) (And.intro rfl (trivial)) (And.intro rfl (And.intro rfl (And.intro rfl (trivial)))) (⟨by omega, fun j hj h => by by_cases e : j = k; exact (fun h2 => heq (by subst e; simpa using h2.symm)); exact hne j hj (by omega)⟩) (by omega) ent
  · intro hlt
    refine r_exit ?_
    refine at_then_exit ?_
    refine at_then_exit ?_
    refine at_block_here ?_
    refine at_then_wp ?_
    refine r_seq ?_
    refine r_reg ?_
    refine ws (st_po (po_assign rfl) rfl rfl rfl ?_)
    refine s_nil ?_
    refine at_then_wp ?_
    refine r_ret ?_
    refine at_ret1 rfl (rv_tmp rfl) ⟨_, ⟨⟨_, rfl, by omega, by constructor; intro h; omega; intro h; obtain ⟨j, hj, e⟩ := List.getElem_of_mem h; exact absurd e (hne j hj (by omega))⟩, rfl⟩, ?_⟩
    try dsimp only [List.cons_append, List.nil_append]
    exact ent

theorem contains_B (s : Value) (xs : List Int) (y : Int) (hl : xs.length ≤ 2^30) : Spec PP 89 #[s, .int .u8 y] [Sl eB s xs] (fun v M => v = .bool (decide (y ∈ xs)) ∧ M = [Sl eB s xs]) := by
  refine spec_of (Go.Proofs.Tryz.func89) rfl rfl rfl (by exact fc_enters_89) ?_
  intro g F
  try dsimp only [List.cons_append, List.nil_append]
  refine r_seq ?_
  refine r_reg ?_
  refine ws (st_po (po_assign rfl) rfl rfl rfl ?_)
  refine s_nil ?_
  refine at_then_wp ?_
  refine r_seq ?_
  refine r_reg ?_
  refine ws (st_po (po_move rfl) rfl rfl rfl ?_)
  refine ws (st_po (po_move rfl) rfl rfl rfl ?_)
  refine ws (st_call (co_fn rfl rfl) (index_B s xs y hl) (by infer_instance) rfl rfl rfl ?_)
  rintro _ _ ⟨⟨r, rfl, hr, he⟩, rfl⟩
  try dsimp only [List.cons_append, List.nil_append]
  refine ws (st_po (po_ge rfl rfl) rfl rfl rfl ?_)
  refine ws (st_po (po_assign rfl) rfl rfl rfl ?_)
  refine s_nil ?_
  refine at_then_wp ?_
  refine r_ret ?_
  refine at_ret1 rfl (rv_tmp rfl) ⟨_, ⟨congrArg Value.bool (decide_eq_decide.2 he), rfl⟩, ?_⟩
  try dsimp only [List.cons_append, List.nil_append]
  exact ent

theorem bits_Mul64 (y : Int) (h0 : 0 ≤ y) (h1 : y < 4294967296) : Spec PP 138 #[.int .u64 1, .int .u64 y] [] (fun v M => v = .tuple #[.int .u64 0, .int .u64 y] ∧ M = []) := by
  refine spec_of (Go.Proofs.Tryz.func138) rfl rfl rfl (by exact fc_enters_138) ?_
  intro g F
  try dsimp only [List.cons_append, List.nil_append]
  refine r_seq ?_
  refine r_reg ?_
  refine ws (st_po (po_assign rfl) rfl rfl rfl ?_)
  refine ws (st_po (po_assign rfl) rfl rfl rfl ?_)
  refine s_nil ?_
  refine at_then_wp ?_
  refine r_seq ?_
  refine r_reg ?_
  refine ws (st_po (po_move rfl) rfl rfl rfl ?_)
  refine ws (st_po (po_and32 rfl rfl (by omega) (by omega)) rfl rfl rfl ?_)
  refine ws (st_po (po_assign rfl) rfl rfl rfl ?_)
  refine s_nil ?_
  refine at_then_wp ?_
  refine r_seq ?_
  refine r_reg ?_
  refine ws (st_po (po_move rfl) rfl rfl rfl ?_)
  refine ws (st_po (po_shr (m := 32) rfl rfl (by decide)) rfl rfl rfl ?_)
  refine ws (st_po (po_assign rfl) rfl rfl rfl ?_)
  refine s_nil ?_
  refine at_then_wp ?_
  refine r_seq ?_
  rw [show (1 : Int) / 2 ^ 32 = 0 from by decide]
  refine r_reg ?_
  refine ws (st_po (po_move rfl) rfl rfl rfl ?_)
  refine ws (st_po (po_and32 rfl rfl (by omega) (by omega)) rfl rfl rfl ?_)
  refine ws (st_po (po_assign rfl) rfl rfl rfl ?_)
  refine s_nil ?_
  refine at_then_wp ?_
  refine r_seq ?_
  refine r_reg ?_
  refine ws (st_po (po_move rfl) rfl rfl rfl ?_)
  refine ws (st_po (po_shr (m := 32) rfl rfl (by decide)) rfl rfl rfl ?_)
  refine ws (st_po (po_assign rfl) rfl rfl rfl ?_)
  refine s_nil ?_
  refine at_then_wp ?_
  refine r_seq ?_
  rw [show y / 2 ^ 32 = 0 from by omega]
  refine r_reg ?_
  refine ws (st_po (po_move rfl) rfl rfl rfl ?_)
  refine ws (st_po (po_move rfl) rfl rfl rfl ?_)
  refine ws (st_po (po_mul_w rfl rfl (wrap_u64 _ (by omega) (by omega))) rfl rfl rfl ?_)
  refine ws (st_po (po_assign rfl) rfl rfl rfl ?_)
  refine s_nil ?_
  refine at_then_wp ?_
  refine r_seq ?_
  rw [Int.one_mul]
  refine r_reg ?_
  refine ws (st_po (po_move rfl) rfl rfl rfl ?_)
  refine ws (st_po (po_move rfl) rfl rfl rfl ?_)
  refine ws (st_po (po_mul_w rfl rfl (wrap_u64 _ (by omega) (by omega))) rfl rfl rfl ?_)
  refine ws (st_po (po_move rfl) rfl rfl rfl ?_)
  refine ws (st_po (po_shr (m := 32) rfl rfl (by decide)) rfl rfl rfl ?_)
  refine ws (st_po (po_add_w rfl rfl (wrap_u64 _ (by omega) (by omega))) rfl rfl rfl ?_)
  refine ws (st_po (po_assign rfl) rfl rfl rfl ?_)
  refine s_nil ?_
  refine at_then_wp ?_
  refine r_seq ?_
  rw [show 0 * y + y / 2 ^ 32 = 0 from by omega]
  refine r_reg ?_
  refine ws (st_po (po_move rfl) rfl rfl rfl ?_)
  refine ws (st_po (po_and32 rfl rfl (by omega) (by omega)) rfl rfl rfl ?_)
  refine ws (st_po (po_assign rfl) rfl rfl rfl ?_)
  refine s_nil ?_
  refine at_then_wp ?_
  refine r_seq ?_
  refine r_reg ?_
  refine ws (st_po (po_move rfl) rfl rfl rfl ?_)
  refine ws (st_po (po_shr (m := 32) rfl rfl (by decide)) rfl rfl rfl ?_)
  refine ws (st_po (po_assign rfl) rfl rfl rfl ?_)
  refine s_nil ?_
  refine at_then_wp ?_
  refine r_seq ?_
  rw [show (0 : Int) / 2 ^ 32 = 0 from by decide]
  refine r_reg ?_
  refine ws (st_po (po_move rfl) rfl rfl rfl ?_)
  refine ws (st_po (po_move rfl) rfl rfl rfl ?_)
  refine ws (st_po (po_move rfl) rfl rfl rfl ?_)
  refine ws (st_po (po_mul_w rfl rfl (wrap_u64 _ (by omega) (by omega))) rfl rfl rfl ?_)
  refine ws (st_po (po_add_w rfl rfl (wrap_u64 _ (by omega) (by omega))) rfl rfl rfl ?_)
  refine ws (st_po (po_assign rfl) rfl rfl rfl ?_)
  refine s_nil ?_
  refine at_then_wp ?_
  refine r_seq ?_
  rw [show (0 : Int) + 1 * 0 = 0 from by decide]
  refine r_reg ?_
  refine ws (st_po (po_move rfl) rfl rfl rfl ?_)
  refine ws (st_po (po_move rfl) rfl rfl rfl ?_)
  refine ws (st_po (po_mul_w rfl rfl (wrap_u64 _ (by omega) (by omega))) rfl rfl rfl ?_)
  refine ws (st_po (po_move rfl) rfl rfl rfl ?_)
  refine ws (st_po (po_add_w rfl rfl (wrap_u64 _ (by omega) (by omega))) rfl rfl rfl ?_)
  refine ws (st_po (po_move rfl) rfl rfl rfl ?_)
  refine ws (st_po (po_shr (m := 32) rfl rfl (by decide)) rfl rfl rfl ?_)
  refine ws (st_po (po_add_w rfl rfl (wrap_u64 _ (by omega) (by omega))) rfl rfl rfl ?_)
  refine ws (st_po (po_assign rfl) rfl rfl rfl ?_)
  refine s_nil ?_
  refine at_then_wp ?_
  refine r_seq ?_
  rw [show (0 : Int) * 0 + 0 + 0 / 2 ^ 32 = 0 from by decide]
  refine r_reg ?_
  refine ws (st_po (po_move rfl) rfl rfl rfl ?_)
  refine ws (st_po (po_move rfl) rfl rfl rfl ?_)
  refine ws (st_po (po_mul_w rfl rfl (wrap_u64 _ (by omega) (by omega))) rfl rfl rfl ?_)
  refine ws (st_po (po_assign rfl) rfl rfl rfl ?_)
  refine s_nil ?_
  refine at_then_wp ?_
  refine r_ret ?_
  refine at_ret2 rfl (rv_tmp rfl) (rv_tmp rfl) ⟨_, ⟨by rw [Int.one_mul], rfl⟩, ?_⟩
  try dsimp only [List.cons_append, List.nil_append]
  exact ent
theorem bits_Mul (x y : Int) (hx : x = 1) (h0 : 0 ≤ y) (h1 : y < 4294967296) : Spec PP 109 #[.int .u64 x, .int .u64 y] [] (fun v M => v = .tuple #[.int .u64 0, .int .u64 y] ∧ M = []) := by
  subst hx
  refine spec_of (Go.Proofs.Tryz.func109) rfl rfl rfl (by exact fc_enters_109) ?_
  intro g F
  try dsimp only [List.cons_append, List.nil_append]
  refine r_seq ?_
  refine r_reg ?_
  refine ws (st_po (po_assign rfl) rfl rfl rfl ?_)
  refine ws (st_po (po_assign rfl) rfl rfl rfl ?_)
  refine s_nil ?_
  refine at_then_wp ?_
  refine r_seq ?_
  refine r_cond_f rfl rfl ?_
  refine r_skip ?_
  refine at_then_wp ?_
  refine r_seq ?_
  refine r_reg ?_
  refine ws (st_po (po_move rfl) rfl rfl rfl ?_)
  refine ws (st_po (po_move rfl) rfl rfl rfl ?_)
  refine ws (st_call (co_fn rfl rfl) (bits_Mul64 y h0 h1) (by infer_instance) rfl rfl rfl ?_)
  rintro _ _ ⟨rfl, rfl⟩
  try dsimp only [List.cons_append, List.nil_append]
  refine ws (st_po (po_move rfl) rfl rfl rfl ?_)
  refine ws (st_po (po_extract rfl rfl) rfl rfl rfl ?_)
  refine ws (st_po (po_extract rfl rfl) rfl rfl rfl ?_)
  refine ws (st_po (po_assign rfl) rfl rfl rfl ?_)
  refine ws (st_po (po_assign rfl) rfl rfl rfl ?_)
  refine s_nil ?_
  refine at_then_wp ?_
  refine r_seq ?_
  refine r_reg ?_
  refine ws (st_po (po_move rfl) rfl rfl rfl ?_)
  refine ws (st_po (po_move rfl) rfl rfl rfl ?_)
  refine ws (st_po (po_assign rfl) rfl rfl rfl ?_)
  refine ws (st_po (po_assign rfl) rfl rfl rfl ?_)
  refine s_nil ?_
  refine at_then_wp ?_
  refine r_ret ?_
  refine at_ret2 rfl (rv_tmp rfl) (rv_tmp rfl) ⟨_, ⟨rfl, rfl⟩, ?_⟩
  try dsimp only [List.cons_append, List.nil_append]
  exact ent

theorem rep_copy {α : Type} (a z : α) (k n : Nat) (hk : k ≤ n) (zs : List α) (hz : zs = ((List.take k (List.replicate k a ++ List.replicate (n - k) z)).drop 0).take ((List.replicate k a ++ List.replicate (n - k) z).length - k)) :
    List.take k (List.replicate k a ++ List.replicate (n - k) z) ++ (zs ++ List.drop (k + zs.length) (List.replicate k a ++ List.replicate (n - k) z)) = List.replicate (k + zs.length) a ++ List.replicate (n - (k + zs.length)) z ∧ zs.length = min k (n - k) := by
  have e1 : List.take k (List.replicate k a ++ List.replicate (n - k) z) = List.replicate k a := by
    rw [List.take_append_of_le_length (by simp)]; simp
  have hz' : zs = List.replicate (min k (n - k)) a := by
    rw [hz, e1, List.drop_zero, List.take_replicate]; congr 1; simp; omega
  have hzl : zs.length = min k (n - k) := by rw [hz']; simp
  refine ⟨?_, hzl⟩
  rw [e1, hzl, hz', List.drop_append, List.drop_replicate, List.drop_replicate, ← List.append_assoc, ← List.append_assoc, List.replicate_append_replicate, List.replicate_append_replicate]
  congr 2
  · omega
  · simp; omega

theorem rep_init {α : Type} (a z : α) (n : Nat) (xs : List α) (hx : xs = [a]) : List.take (List.replicate n z).length xs ++ List.drop (List.take (List.replicate n z).length xs).length (List.replicate n z) = List.replicate (List.take (List.replicate n z).length xs).length a ++ List.replicate (n - (List.take (List.replicate n z).length xs).length) z ∧
    (List.take (List.replicate n z).length xs).length = min n 1 := by
  subst hx
  cases n with
  | zero => simp
  | succ m => simp

theorem repeat_I' (s : Value) (xs : List Int) (a : Int) (hx : xs = [a]) (hx1 : xs.length = 1) (n : Int) (h0 : 0 ≤ n) (h1 : n ≤ 2^30) : Spec PP 84 #[s, .int .i64 n] [Sl eI s xs] (fun v M => M = [Sl eI v (List.replicate n.toNat a)]) := by
  refine spec_of (Go.Proofs.Tryz.func84) rfl rfl rfl (by exact fc_enters_84) ?_
  intro g F
  try dsimp only [List.cons_append, List.nil_append]
  refine r_seq ?_
  refine r_reg ?_
  refine ws (st_po (po_assign rfl) rfl rfl rfl ?_)
  refine s_nil ?_
  refine at_then_wp ?_
  refine r_seq ?_
  refine r_seq ?_
  refine r_reg ?_
  refine ws (st_po (po_move rfl) rfl rfl rfl ?_)
  refine ws (st_po (po_lt rfl rfl) rfl rfl rfl ?_)
  refine s_nil ?_
  refine at_then_wp ?_
  first | refine r_dec_f rfl (by omega) ?_ | refine r_nd_f rfl (by omega) ?_ | refine r_cond_f rfl (by omega) ?_
  refine r_skip ?_
  refine at_then_wp ?_
  refine r_seq ?_
  refine r_reg ?_
  refine ws (st_po (po_move rfl) rfl rfl rfl ?_)
  refine ws (st_po (po_len rfl (by exact fc_slice_35_3_1)) rfl rfl rfl ?_)
  refine ws (st_po (po_conv_w rfl (by exact fc_int_3_i64) (by exact fc_int_139_u64) (wrap_u64 _ (by omega) (by omega))) rfl rfl rfl ?_)
  refine ws (st_po (po_move rfl) rfl rfl rfl ?_)
  refine ws (st_po (po_conv_w rfl (by exact fc_int_3_i64) (by exact fc_int_139_u64) (wrap_u64 _ (by omega) (by omega))) rfl rfl rfl ?_)
  refine ws (st_call (co_fn rfl rfl) (bits_Mul xs.length n (by omega) h0 (by omega)) (by infer_instance) rfl rfl rfl ?_)
  rintro _ _ ⟨rfl, rfl⟩
  try dsimp only [List.cons_append, List.nil_append]
  refine ws (st_po (po_move rfl) rfl rfl rfl ?_)
  refine ws (st_po (po_extract rfl rfl) rfl rfl rfl ?_)
  refine ws (st_po (po_extract rfl rfl) rfl rfl rfl ?_)
  refine ws (st_po (po_assign rfl) rfl rfl rfl ?_)
  refine ws (st_po (po_assign rfl) rfl rfl rfl ?_)
  refine s_nil ?_
  refine at_then_wp ?_
  refine r_seq ?_
  refine r_seq ?_
  refine r_reg ?_
  refine ws (st_po (po_move rfl) rfl rfl rfl ?_)
  refine ws (st_po (po_gt rfl rfl) rfl rfl rfl ?_)
  refine ws (st_po (po_bf (po_move rfl) (decide_eq_false (by omega))) rfl rfl rfl ?_)
  refine ws (st_po (po_move rfl) rfl rfl rfl ?_)
  refine ws (st_po (po_gt rfl rfl) rfl rfl rfl ?_)
  refine ws (st_po (po_pick_f rfl rfl) rfl rfl rfl ?_)
  refine s_nil ?_
  refine at_then_wp ?_
  first | refine r_dec_f rfl (by omega) ?_ | refine r_nd_f rfl (by omega) ?_ | refine r_cond_f rfl (by omega) ?_
  refine r_skip ?_
  refine at_then_wp ?_
  refine r_seq ?_
  refine r_reg ?_
  refine ws (st_po (po_move rfl) rfl rfl rfl ?_)
  refine ws (st_po (po_conv_w rfl (by exact fc_int_139_u64) (by exact fc_int_3_i64) (wrap_i64 _ (by omega) (by omega))) rfl rfl rfl ?_)
  refine ws (st_xo (xo_make eI (0) rfl rfl (by exact fc_slice_35_3_1) (by exact fc_elem_3_1_8) (by exact fc_zero_3) rfl (by first | omega | (simp only [List.length_nil, List.length_cons, List.length_append, List.length_replicate, List.length_set, List.length_map, List.length_take, List.length_drop]; omega)) (by first | omega | (simp only [List.length_nil, List.length_cons, List.length_append, List.length_replicate, List.length_set, List.length_map, List.length_take, List.length_drop]; omega)) (by first | omega | (simp only [List.length_nil, List.length_cons, List.length_append, List.length_replicate, List.length_set, List.length_map, List.length_take, List.length_drop]; omega))) rfl rfl rfl ?_)
  rintro v30 _ rfl
  refine ws (st_po (po_assign rfl) rfl rfl rfl ?_)
  refine s_nil ?_
  refine at_then_wp ?_
  refine r_seq ?_
  refine r_reg ?_
  refine ws (st_po (po_move rfl) rfl rfl rfl ?_)
  refine ws (st_po (po_move rfl) rfl rfl rfl ?_)
  refine ws (st_xo (xo_copy0 rfl rfl (by exact fc_slice_35_3_1) rfl) rfl rfl rfl ?_)
  rintro _ _ ⟨rfl, rfl⟩
  refine ws (st_po (po_assign rfl) rfl rfl rfl ?_)
  refine s_nil ?_
  refine at_then_wp ?_
  refine r_seq ?_
  refine r_block ?_
  obtain ⟨e0, e1⟩ := rep_init a (0 : Int) n.toNat xs hx
  rw [e0]
  generalize (List.take (List.replicate n.toNat (0 : Int)).length xs).length = k0 at *
  refine r_loop (S := Nat) (fun k => [(8, .int .i64 k)]) [(7, _)] (fun k => [Sl eI v30 (List.replicate k a ++ List.replicate (n.toNat - k) 0), F]) (fun k => k ≤ n.toNat ∧ (k = 0 → n.toNat = 0)) (fun k => n.toNat - k) (k0) (And.intro rfl (trivial)) (And.intro rfl (trivial)) (by omega) ent ?_
  rintro k ⟨hk1, hk2⟩
  try dsimp only
  have hll : (List.replicate k a ++ List.replicate (n.toNat - k) (0 : Int)).length = n.toNat := by simp; omega
  refine r_seq ?_
  refine r_seq ?_
  refine r_reg ?_
  refine ws (st_po (po_move rfl) rfl rfl rfl ?_)
  refine ws (st_po (po_move rfl) rfl rfl rfl ?_)
  refine ws (st_po (po_len rfl (by exact fc_slice_35_3_1)) rfl rfl rfl ?_)
  refine ws (st_po (po_lt rfl rfl) rfl rfl rfl ?_)
  refine s_nil ?_
  refine at_then_wp ?_
  first | refine r_cond_not rfl ?_ ?_ | refine r_cond_dec rfl ?_ ?_ | refine r_cond rfl ?_ ?_
  · intro hlt
    rw [hll] at hlt
    refine r_skip ?_
    refine at_then_wp ?_
    refine r_block ?_
    refine r_ord [7] _ [(0, 1), (1, 1), (2, 1), (3, 0), (4, 1), (5, 1), (6, 0), (7, 2), (8, 2), (9, 1)] fc_mixed (by kernel_rfl) (fun _ h => h) ?_
    refine o_fr rfl (po_move rfl) rfl rfl rfl ?_
    refine o_fr rfl (po_move rfl) rfl rfl rfl ?_
    refine o_fr rfl (po_move rfl) rfl rfl rfl ?_
    refine o_rd rfl (po_slice_l rfl rfl (by exact fc_slice_35_3_1) (by first | omega | (simp only [List.length_nil, List.length_cons, List.length_append, List.length_replicate, List.length_set, List.length_map, List.length_take, List.length_drop]; omega)) (by first | omega | (simp only [List.length_nil, List.length_cons, List.length_append, List.length_replicate, List.length_set, List.length_map, List.length_take, List.length_drop]; omega))) (by first | exact fun _ h => h | exact ent) rfl rfl rfl ?_
    refine o_fr rfl (po_move rfl) rfl rfl rfl ?_
    refine o_fr rfl (po_move rfl) rfl rfl rfl ?_
    refine o_rd rfl (po_slice_h rfl rfl (by exact fc_slice_35_3_1) (by first | omega | (simp only [List.length_nil, List.length_cons, List.length_append, List.length_replicate, List.length_set, List.length_map, List.length_take, List.length_drop]; omega)) (by first | omega | (simp only [List.length_nil, List.length_cons, List.length_append, List.length_replicate, List.length_set, List.length_map, List.length_take, List.length_drop]; omega))) (by first | exact fun _ h => h | exact ent) rfl rfl rfl ?_
    refine o_st rfl (st_xo (xo_copy (m2 := rd_sub 0 (k : Int).toNat (by omega) (by simp only [List.length_append, List.length_replicate]; omega)) rfl rfl (by exact fc_slice_35_3_1) (by simp only [List.length_append, List.length_replicate]; omega) rfl) rfl rfl rfl ?_)
    rintro _ _ ⟨rfl, rfl⟩
    refine ⟨fun h => late_no h (by kernel_rfl), ?_⟩
    refine o_st rfl (st_po (po_add' rfl rfl (by omega) (by simp only [List.length_take, List.length_drop, List.length_append, List.length_replicate]; omega)) rfl rfl rfl ?_)
    refine ⟨fun h => late_no h (by kernel_rfl), ?_⟩
    refine o_fr rfl (po_assign rfl) rfl rfl rfl ?_
    refine o_nil ?_
    refine at_block_normal ?_
    simp only [Int.toNat_natCast]
    generalize hz : List.take ((List.replicate k a ++ List.replicate (n.toNat - k) (0 : Int)).length - k) (List.drop 0 (List.take k (List.replicate k a ++ List.replicate (n.toNat - k) 0))) = zs
    obtain ⟨e2, e3⟩ := rep_copy a (0 : Int) k n.toNat hk1 zs hz.symm
    rw [e2]
    exact at_again (k + zs.length) (And.intro rfl (trivial)) (And.intro rfl (trivial)) (by omega) (by omega) ent
  · intro hlt
    refine r_exit ?_
    refine at_then_exit ?_
    refine at_then_exit ?_
    refine at_block_here ?_
    refine at_then_wp ?_
    refine r_seq ?_
    refine r_reg ?_
    refine ws (st_po (po_move rfl) rfl rfl rfl ?_)
    refine ws (st_po (po_assign rfl) rfl rfl rfl ?_)
    refine s_nil ?_
    refine at_then_wp ?_
    refine r_ret ?_
    rw [hll] at hlt
    have hkn : k = n.toNat := by omega
    subst hkn
    rw [Nat.sub_self, List.replicate_zero, List.append_nil]
    refine at_ret1 rfl (rv_tmp rfl) ⟨_, rfl, ?_⟩
    try dsimp only [List.cons_append, List.nil_append]
    exact ent
theorem repeat_W' (s : Value) (xs : List Int) (a : Int) (hx : xs = [a]) (hx1 : xs.length = 1) (n : Int) (h0 : 0 ≤ n) (h1 : n ≤ 2^30) : Spec PP 92 #[s, .int .i64 n] [Sl eW s xs] (fun v M => M = [Sl eW v (List.replicate n.toNat a)]) := by
  refine spec_of (Go.Proofs.Tryz.func92) rfl rfl rfl (by exact fc_enters_92) ?_
  intro g F
  try dsimp only [List.cons_append, List.nil_append]
  refine r_seq ?_
  refine r_reg ?_
  refine ws (st_po (po_assign rfl) rfl rfl rfl ?_)
  refine s_nil ?_
  refine at_then_wp ?_
  refine r_seq ?_
  refine r_seq ?_
  refine r_reg ?_
  refine ws (st_po (po_move rfl) rfl rfl rfl ?_)
  refine ws (st_po (po_lt rfl rfl) rfl rfl rfl ?_)
  refine s_nil ?_
  refine at_then_wp ?_
  first | refine r_dec_f rfl (by omega) ?_ | refine r_nd_f rfl (by omega) ?_ | refine r_cond_f rfl (by omega) ?_
  refine r_skip ?_
  refine at_then_wp ?_
  refine r_seq ?_
  refine r_reg ?_
  refine ws (st_po (po_move rfl) rfl rfl rfl ?_)
  refine ws (st_po (po_len rfl (by exact fc_slice_82_21_1)) rfl rfl rfl ?_)
  refine ws (st_po (po_conv_w rfl (by exact fc_int_3_i64) (by exact fc_int_139_u64) (wrap_u64 _ (by omega) (by omega))) rfl rfl rfl ?_)
  refine ws (st_po (po_move rfl) rfl rfl rfl ?_)
  refine ws (st_po (po_conv_w rfl (by exact fc_int_3_i64) (by exact fc_int_139_u64) (wrap_u64 _ (by omega) (by omega))) rfl rfl rfl ?_)
  refine ws (st_call (co_fn rfl rfl) (bits_Mul xs.length n (by omega) h0 (by omega)) (by infer_instance) rfl rfl rfl ?_)
  rintro _ _ ⟨rfl, rfl⟩
  try dsimp only [List.cons_append, List.nil_append]
  refine ws (st_po (po_move rfl) rfl rfl rfl ?_)
  refine ws (st_po (po_extract rfl rfl) rfl rfl rfl ?_)
  refine ws (st_po (po_extract rfl rfl) rfl rfl rfl ?_)
  refine ws (st_po (po_assign rfl) rfl rfl rfl ?_)
  refine ws (st_po (po_assign rfl) rfl rfl rfl ?_)
  refine s_nil ?_
  refine at_then_wp ?_
  refine r_seq ?_
  refine r_seq ?_
  refine r_reg ?_
  refine ws (st_po (po_move rfl) rfl rfl rfl ?_)
  refine ws (st_po (po_gt rfl rfl) rfl rfl rfl ?_)
  refine ws (st_po (po_bf (po_move rfl) (decide_eq_false (by omega))) rfl rfl rfl ?_)
  refine ws (st_po (po_move rfl) rfl rfl rfl ?_)
  refine ws (st_po (po_gt rfl rfl) rfl rfl rfl ?_)
  refine ws (st_po (po_pick_f rfl rfl) rfl rfl rfl ?_)
  refine s_nil ?_
  refine at_then_wp ?_
  first | refine r_dec_f rfl (by omega) ?_ | refine r_nd_f rfl (by omega) ?_ | refine r_cond_f rfl (by omega) ?_
  refine r_skip ?_
  refine at_then_wp ?_
  refine r_seq ?_
  refine r_reg ?_
  refine ws (st_po (po_move rfl) rfl rfl rfl ?_)
  refine ws (st_po (po_conv_w rfl (by exact fc_int_139_u64) (by exact fc_int_3_i64) (wrap_i64 _ (by omega) (by omega))) rfl rfl rfl ?_)
  refine ws (st_xo (xo_make eW (0) rfl rfl (by exact fc_slice_82_21_1) (by exact fc_elem_21_1_4) (by exact fc_zero_21) rfl (by first | omega | (simp only [List.length_nil, List.length_cons, List.length_append, List.length_replicate, List.length_set, List.length_map, List.length_take, List.length_drop]; omega)) (by first | omega | (simp only [List.length_nil, List.length_cons, List.length_append, List.length_replicate, List.length_set, List.length_map, List.length_take, List.length_drop]; omega)) (by first | omega | (simp only [List.length_nil, List.length_cons, List.length_append, List.length_replicate, List.length_set, List.length_map, List.length_take, List.length_drop]; omega))) rfl rfl rfl ?_)
  rintro v30 _ rfl
  refine ws (st_po (po_assign rfl) rfl rfl rfl ?_)
  refine s_nil ?_
  refine at_then_wp ?_
  refine r_seq ?_
  refine r_reg ?_
  refine ws (st_po (po_move rfl) rfl rfl rfl ?_)
  refine ws (st_po (po_move rfl) rfl rfl rfl ?_)
  refine ws (st_xo (xo_copy0 rfl rfl (by exact fc_slice_82_21_1) rfl) rfl rfl rfl ?_)
  rintro _ _ ⟨rfl, rfl⟩
  refine ws (st_po (po_assign rfl) rfl rfl rfl ?_)
  refine s_nil ?_
  refine at_then_wp ?_
  refine r_seq ?_
  refine r_block ?_
  obtain ⟨e0, e1⟩ := rep_init a (0 : Int) n.toNat xs hx
  rw [e0]
  generalize (List.take (List.replicate n.toNat (0 : Int)).length xs).length = k0 at *
  refine r_loop (S := Nat) (fun k => [(8, .int .i64 k)]) [(7, _)] (fun k => [Sl eW v30 (List.replicate k a ++ List.replicate (n.toNat - k) 0), F]) (fun k => k ≤ n.toNat ∧ (k = 0 → n.toNat = 0)) (fun k => n.toNat - k) (k0) (And.intro rfl (trivial)) (And.intro rfl (trivial)) (by omega) ent ?_
  rintro k ⟨hk1, hk2⟩
  try dsimp only
  have hll : (List.replicate k a ++ List.replicate (n.toNat - k) (0 : Int)).length = n.toNat := by simp; omega
  refine r_seq ?_
  refine r_seq ?_
  refine r_reg ?_
  refine ws (st_po (po_move rfl) rfl rfl rfl ?_)
  refine ws (st_po (po_move rfl) rfl rfl rfl ?_)
  refine ws (st_po (po_len rfl (by exact fc_slice_82_21_1)) rfl rfl rfl ?_)
  refine ws (st_po (po_lt rfl rfl) rfl rfl rfl ?_)
  refine s_nil ?_
  refine at_then_wp ?_
  first | refine r_cond_not rfl ?_ ?_ | refine r_cond_dec rfl ?_ ?_ | refine r_cond rfl ?_ ?_
  · intro hlt
    rw [hll] at hlt
    refine r_skip ?_
    refine at_then_wp ?_
    refine r_block ?_
    refine r_ord [7] _ [(0, 1), (1, 1), (2, 1), (3, 0), (4, 1), (5, 1), (6, 0), (7, 2), (8, 2), (9, 1)] fc_mixed (by kernel_rfl) (fun _ h => h) ?_
    refine o_fr rfl (po_move rfl) rfl rfl rfl ?_
    refine o_fr rfl (po_move rfl) rfl rfl rfl ?_
    refine o_fr rfl (po_move rfl) rfl rfl rfl ?_
    refine o_rd rfl (po_slice_l rfl rfl (by exact fc_slice_82_21_1) (by first | omega | (simp only [List.length_nil, List.length_cons, List.length_append, List.length_replicate, List.length_set, List.length_map, List.length_take, List.length_drop]; omega)) (by first | omega | (simp only [List.length_nil, List.length_cons, List.length_append, List.length_replicate, List.length_set, List.length_map, List.length_take, List.length_drop]; omega))) (by first | exact fun _ h => h | exact ent) rfl rfl rfl ?_
    refine o_fr rfl (po_move rfl) rfl rfl rfl ?_
    refine o_fr rfl (po_move rfl) rfl rfl rfl ?_
    refine o_rd rfl (po_slice_h rfl rfl (by exact fc_slice_82_21_1) (by first | omega | (simp only [List.length_nil, List.length_cons, List.length_append, List.length_replicate, List.length_set, List.length_map, List.length_take, List.length_drop]; omega)) (by first | omega | (simp only [List.length_nil, List.length_cons, List.length_append, List.length_replicate, List.length_set, List.length_map, List.length_take, List.length_drop]; omega))) (by first | exact fun _ h => h | exact ent) rfl rfl rfl ?_
    refine o_st rfl (st_xo (xo_copy (m2 := rd_sub 0 (k : Int).toNat (by omega) (by simp only [List.length_append, List.length_replicate]; omega)) rfl rfl (by exact fc_slice_82_21_1) (by simp only [List.length_append, List.length_replicate]; omega) rfl) rfl rfl rfl ?_)
    rintro _ _ ⟨rfl, rfl⟩
    refine ⟨fun h => late_no h (by kernel_rfl), ?_⟩
    refine o_st rfl (st_po (po_add' rfl rfl (by omega) (by simp only [List.length_take, List.length_drop, List.length_append, List.length_replicate]; omega)) rfl rfl rfl ?_)
    refine ⟨fun h => late_no h (by kernel_rfl), ?_⟩
    refine o_fr rfl (po_assign rfl) rfl rfl rfl ?_
    refine o_nil ?_
    refine at_block_normal ?_
    simp only [Int.toNat_natCast]
    generalize hz : List.take ((List.replicate k a ++ List.replicate (n.toNat - k) (0 : Int)).length - k) (List.drop 0 (List.take k (List.replicate k a ++ List.replicate (n.toNat - k) 0))) = zs
    obtain ⟨e2, e3⟩ := rep_copy a (0 : Int) k n.toNat hk1 zs hz.symm
    rw [e2]
    exact at_again (k + zs.length) (And.intro rfl (trivial)) (And.intro rfl (trivial)) (by omega) (by omega) ent
  · intro hlt
    refine r_exit ?_
    refine at_then_exit ?_
    refine at_then_exit ?_
    refine at_block_here ?_
    refine at_then_wp ?_
    refine r_seq ?_
    refine r_reg ?_
    refine ws (st_po (po_move rfl) rfl rfl rfl ?_)
    refine ws (st_po (po_assign rfl) rfl rfl rfl ?_)
    refine s_nil ?_
    refine at_then_wp ?_
    refine r_ret ?_
    rw [hll] at hlt
    have hkn : k = n.toNat := by omega
    subst hkn
    rw [Nat.sub_self, List.replicate_zero, List.append_nil]
    refine at_ret1 rfl (rv_tmp rfl) ⟨_, rfl, ?_⟩
    try dsimp only [List.cons_append, List.nil_append]
    exact ent
theorem repeat_I (s : Value) (a : Int) (n : Int) (h0 : 0 ≤ n) (h1 : n ≤ 2^30) : Spec PP 84 #[s, .int .i64 n] [Sl eI s [a]] (fun v M => M = [Sl eI v (List.replicate n.toNat a)]) := repeat_I' s [a] a rfl rfl n h0 h1
theorem repeat_W (s : Value) (a : Int) (n : Int) (h0 : 0 ≤ n) (h1 : n ≤ 2^30) : Spec PP 92 #[s, .int .i64 n] [Sl eW s [a]] (fun v M => M = [Sl eW v (List.replicate n.toNat a)]) := repeat_W' s [a] a rfl rfl n h0 h1

/-! ## cmp -/
theorem cmp_isNaN (x : Int) : Spec PP 134 #[.int .i64 x] [] (fun v M => v = .bool false ∧ M = []) := by
  refine spec_of (Go.Proofs.Tryz.func134) rfl rfl rfl (by exact fc_enters_134) ?_
  intro g F
  try dsimp only [List.cons_append, List.nil_append]
  refine r_seq ?_
  refine r_reg ?_
  refine ws (st_po (po_assign rfl) rfl rfl rfl ?_)
  refine s_nil ?_
  refine at_then_wp ?_
  refine r_seq ?_
  refine r_reg ?_
  refine ws (st_po (po_move rfl) rfl rfl rfl ?_)
  refine ws (st_po (po_move rfl) rfl rfl rfl ?_)
  refine ws (st_po (po_ne rfl rfl) rfl rfl rfl ?_)
  refine ws (st_po (po_assign rfl) rfl rfl rfl ?_)
  refine s_nil ?_
  refine at_then_wp ?_
  refine r_ret ?_
  refine at_ret1 rfl (rv_tmp rfl) ⟨_, ⟨by simp, rfl⟩, ?_⟩
  try dsimp only [List.cons_append, List.nil_append]
  exact ent
def cmpI (x y : Int) : Int := if x < y then -1 else if y < x then 1 else 0
theorem cmp_Compare (x y : Int) : Spec PP 104 #[.int .i64 x, .int .i64 y] [] (fun v M => v = .int .i64 (cmpI x y) ∧ M = []) := by
  refine spec_of (Go.Proofs.Tryz.func104) rfl rfl rfl (by exact fc_enters_104) ?_
  intro g F
  try dsimp only [List.cons_append, List.nil_append]
  refine r_seq ?_
  refine r_reg ?_
  refine ws (st_po (po_assign rfl) rfl rfl rfl ?_)
  refine s_nil ?_
  refine at_then_wp ?_
  refine r_seq ?_
  refine r_reg ?_
  refine ws (st_po (po_move rfl) rfl rfl rfl ?_)
  refine ws (st_call (co_fn rfl rfl) (cmp_isNaN x) (by infer_instance) rfl rfl rfl ?_)
  rintro _ _ ⟨rfl, rfl⟩
  try dsimp only [List.cons_append, List.nil_append]
  refine ws (st_po (po_assign rfl) rfl rfl rfl ?_)
  refine s_nil ?_
  refine at_then_wp ?_
  refine r_seq ?_
  refine r_reg ?_
  refine ws (st_po (po_move rfl) rfl rfl rfl ?_)
  refine ws (st_call (co_fn rfl rfl) (cmp_isNaN y) (by infer_instance) rfl rfl rfl ?_)
  rintro _ _ ⟨rfl, rfl⟩
  try dsimp only [List.cons_append, List.nil_append]
  refine ws (st_po (po_assign rfl) rfl rfl rfl ?_)
  refine s_nil ?_
  refine at_then_wp ?_
  refine r_seq ?_
  refine r_seq ?_
  refine r_reg ?_
  refine ws (st_po (po_move rfl) rfl rfl rfl ?_)
  refine s_nil ?_
  refine at_then_wp ?_
  refine r_cond_f rfl (rfl) ?_
  refine r_skip ?_
  refine at_then_wp ?_
  refine r_seq ?_
  refine r_seq ?_
  refine r_reg ?_
  refine ws (st_po (po_move rfl) rfl rfl rfl ?_)
  refine s_nil ?_
  refine at_then_wp ?_
  refine r_cond_f rfl (rfl) ?_
  refine r_skip ?_
  refine at_then_wp ?_
  refine r_seq ?_
  refine r_seq ?_
  refine r_reg ?_
  refine ws (st_po (po_move rfl) rfl rfl rfl ?_)
  refine ws (st_po (po_move rfl) rfl rfl rfl ?_)
  refine ws (st_po (po_lt rfl rfl) rfl rfl rfl ?_)
  refine s_nil ?_
  refine at_then_wp ?_
  first | refine r_cond_not rfl ?_ ?_ | refine r_cond_dec rfl ?_ ?_ | refine r_cond rfl ?_ ?_
  · intro h1
    refine r_seq ?_
    refine r_reg ?_
    refine ws (st_po (po_assign rfl) rfl rfl rfl ?_)
    refine s_nil ?_
    refine at_then_wp ?_
    refine r_ret ?_
    refine at_then_ret ?_
    refine at_ret1 rfl (rv_tmp rfl) ⟨_, ⟨by rw [cmpI, if_pos h1], rfl⟩, ?_⟩
    try dsimp only [List.cons_append, List.nil_append]
    exact ent
  · intro h1
    refine r_skip ?_
    refine at_then_wp ?_
    refine r_seq ?_
    refine r_seq ?_
    refine r_reg ?_
    refine ws (st_po (po_move rfl) rfl rfl rfl ?_)
    refine ws (st_po (po_move rfl) rfl rfl rfl ?_)
    refine ws (st_po (po_gt rfl rfl) rfl rfl rfl ?_)
    refine s_nil ?_
    refine at_then_wp ?_
    first | refine r_cond_not rfl ?_ ?_ | refine r_cond_dec rfl ?_ ?_ | refine r_cond rfl ?_ ?_
    · intro h2
      refine r_seq ?_
      refine r_reg ?_
      refine ws (st_po (po_assign rfl) rfl rfl rfl ?_)
      refine s_nil ?_
      refine at_then_wp ?_
      refine r_ret ?_
      refine at_then_ret ?_
      refine at_ret1 rfl (rv_tmp rfl) ⟨_, ⟨by rw [cmpI, if_neg h1, if_pos h2], rfl⟩, ?_⟩
      try dsimp only [List.cons_append, List.nil_append]
      exact ent
    · intro h2
      refine r_skip ?_
      refine at_then_wp ?_
      refine r_seq ?_
      refine r_reg ?_
      refine ws (st_po (po_assign rfl) rfl rfl rfl ?_)
      refine s_nil ?_
      refine at_then_wp ?_
      refine r_ret ?_
      refine at_ret1 rfl (rv_tmp rfl) ⟨_, ⟨by rw [cmpI, if_neg h1, if_neg h2], rfl⟩, ?_⟩
      try dsimp only [List.cons_append, List.nil_append]
      exact ent
theorem cmp_Less (x y : Int) : Spec PP 160 #[.int .i64 x, .int .i64 y] [] (fun v M => v = .bool (decide (x < y)) ∧ M = []) := by
  refine spec_of (Go.Proofs.Tryz.func160) rfl rfl rfl (by exact fc_enters_160) ?_
  intro g F
  try dsimp only [List.cons_append, List.nil_append]
  refine r_seq ?_
  refine r_reg ?_
  refine ws (st_po (po_assign rfl) rfl rfl rfl ?_)
  refine s_nil ?_
  refine at_then_wp ?_
  refine r_seq ?_
  refine r_reg ?_
  refine ws (st_po (po_move rfl) rfl rfl rfl ?_)
  refine ws (st_call (co_fn rfl rfl) (cmp_isNaN x) (by infer_instance) rfl rfl rfl ?_)
  rintro _ _ ⟨rfl, rfl⟩
  try dsimp only [List.cons_append, List.nil_append]
  refine ws (st_po (po_bf (po_move rfl) (rfl)) rfl rfl rfl ?_)
  refine ws (st_no rfl rfl rfl ?_)
  refine ws (st_no rfl rfl rfl ?_)
  refine ws (st_no rfl rfl rfl ?_)
  refine ws (st_po (po_pick_f rfl rfl) rfl rfl rfl ?_)
  refine ws (st_po (po_move rfl) rfl rfl rfl ?_)
  refine ws (st_po (po_move rfl) rfl rfl rfl ?_)
  refine ws (st_po (po_move rfl) rfl rfl rfl ?_)
  refine ws (st_po (po_lt rfl rfl) rfl rfl rfl ?_)
  refine ws (st_po (po_pick_f rfl rfl) rfl rfl rfl ?_)
  refine ws (st_po (po_assign rfl) rfl rfl rfl ?_)
  refine s_nil ?_
  refine at_then_wp ?_
  refine r_ret ?_
  refine at_ret1 rfl (rv_tmp rfl) ⟨_, ⟨rfl, rfl⟩, ?_⟩
  try dsimp only [List.cons_append, List.nil_append]
  exact ent
/-- the first that is not nought -/
def orI : List Int → Int
  | [] => 0
  | x :: xs => if x = 0 then orI xs else x
theorem orI_drop : ∀ (xs : List Int) (k : Nat), (∀ j, (h : j < xs.length) → j < k → xs[j] = 0) → orI xs = orI (xs.drop k)
  | [], k, _ => by simp
  | x :: xs, 0, _ => rfl
  | x :: xs, k + 1, h => by
    have h0 : x = 0 := h 0 (by simp) (by omega)
    rw [orI, if_pos h0, List.drop_succ_cons]
    exact orI_drop xs k (fun j hj hk => h (j + 1) (by simpa using hj) (by omega))
theorem cmp_Or (s : Value) (xs : List Int) (hl : xs.length ≤ 2^30) : Spec PP 103 #[s] [Sl eI s xs] (fun v M => v = .int .i64 (orI xs) ∧ M = [Sl eI s xs]) := by
  refine spec_of (Go.Proofs.Tryz.func103) rfl rfl rfl (by exact fc_enters_103) ?_
  intro g F
  try dsimp only [List.cons_append, List.nil_append]
  refine r_seq ?_
  refine r_reg ?_
  refine ws (st_po (po_assign rfl) rfl rfl rfl ?_)
  refine s_nil ?_
  refine at_then_wp ?_
  refine r_seq ?_
  refine r_reg ?_
  refine ws (st_po (po_assign rfl) rfl rfl rfl ?_)
  refine s_nil ?_
  refine at_then_wp ?_
  refine r_seq ?_
  refine r_seq ?_
  refine r_reg ?_
  refine ws (st_po (po_move rfl) rfl rfl rfl ?_)
  refine ws (st_po (po_len rfl (by exact fc_slice_35_3_1)) rfl rfl rfl ?_)
  refine ws (st_po (po_move rfl) rfl rfl rfl ?_)
  refine s_nil ?_
  refine at_then_wp ?_
  refine r_block ?_
  refine r_loop (S := Nat) (fun k => [(8, .int .i64 k)]) [(3, _), (6, _), (7, _)] (fun k => [Sl eI s xs, F]) (fun k => k ≤ xs.length ∧ ∀ j, (h : j < xs.length) → j < k → xs[j] = 0) (fun k => xs.length - k) (0) (And.intro rfl (And.intro rfl (And.intro rfl (trivial)))) (And.intro rfl (trivial)) (⟨by omega, fun j _ h => by omega⟩) ent ?_
  rintro k ⟨hk, hne⟩
  try dsimp only
  refine r_seq ?_
  refine r_reg ?_
  refine ws (st_po (po_lt rfl rfl) rfl rfl rfl ?_)
  refine s_nil ?_
  refine at_then_wp ?_
  refine r_seq ?_
  first | refine r_cond_not rfl ?_ ?_ | refine r_cond_dec rfl ?_ ?_ | refine r_cond rfl ?_ ?_
  · intro hlt
    refine r_skip ?_
    refine at_then_wp ?_
    refine r_seq ?_
    refine r_block ?_
    refine r_seq ?_
    refine r_reg ?_
    refine ws (st_po (po_iaddr rfl rfl (by exact fc_slice_35_3_1) (by first | omega | (simp only [List.length_nil, List.length_cons, List.length_append, List.length_replicate, List.length_set, List.length_map, List.length_take, List.length_drop]; omega)) (by first | omega | (simp only [List.length_nil, List.length_cons, List.length_append, List.length_replicate, List.length_set, List.length_map, List.length_take, List.length_drop]; omega))) rfl rfl rfl ?_)
    refine ws (st_po (po_load_sl rfl (List.getElem?_eq_getElem (by omega)) (by exact fc_flat_3) (by rfl)) rfl rfl rfl ?_)
    refine ws (st_po (po_assign rfl) rfl rfl rfl ?_)
    refine s_nil ?_
    refine at_then_wp ?_
    refine r_seq ?_
    refine r_reg ?_
    refine ws (st_po (po_move rfl) rfl rfl rfl ?_)
    refine ws (st_po (po_move rfl) rfl rfl rfl ?_)
    refine ws (st_po (po_ne rfl rfl) rfl rfl rfl ?_)
    refine s_nil ?_
    refine at_then_wp ?_
    first | refine r_cond_not rfl ?_ ?_ | refine r_cond_dec rfl ?_ ?_ | refine r_cond rfl ?_ ?_
    · intro heq
      refine r_seq ?_
      refine r_reg ?_
      refine ws (st_po (po_move rfl) rfl rfl rfl ?_)
      refine ws (st_po (po_assign rfl) rfl rfl rfl ?_)
      refine s_nil ?_
      refine at_then_wp ?_
      refine r_ret ?_
      refine at_block_ret ?_
      refine at_then_ret ?_
      refine at_then_ret ?_
      refine at_block_ret ?_
      refine at_then_ret ?_
      refine at_ret1 rfl (rv_tmp rfl) ⟨_, ⟨by rw [orI_drop xs k hne, List.drop_eq_getElem_cons (by omega), orI, if_neg (by simpa using heq)]; simp, rfl⟩, ?_⟩
      try dsimp only [List.cons_append, List.nil_append]
      exact ent
    · intro heq
      refine r_skip ?_
      refine at_block_normal ?_
      refine at_then_wp ?_
      refine r_reg ?_
      refine ws (st_po (po_add' rfl rfl (by omega) (by omega)) rfl rfl rfl ?_)
      refine ws (st_po (po_move rfl) rfl rfl rfl ?_)
      refine s_nil ?_
      exact at_again (k + 1) (And.intro rfl (trivial)) (And.intro rfl (And.intro rfl (And.intro rfl (trivial)))) (⟨by omega, fun j hj h => by by_cases e : j = k; (subst e; simpa using heq); exact hne j hj (by omega)⟩) (by omega) ent
  · intro hlt
    refine r_exit ?_
    refine at_then_exit ?_
    refine at_then_exit ?_
    refine at_block_here ?_
    refine at_then_wp ?_
    refine r_seq ?_
    refine r_reg ?_
    refine ws (st_po (po_move rfl) rfl rfl rfl ?_)
    refine ws (st_po (po_assign rfl) rfl rfl rfl ?_)
    refine s_nil ?_
    refine at_then_wp ?_
    refine r_ret ?_
    refine at_ret1 rfl (rv_tmp rfl) ⟨_, ⟨by rw [orI_drop xs k hne, List.drop_eq_nil_of_le (by omega), orI], rfl⟩, ?_⟩
    try dsimp only [List.cons_append, List.nil_append]
    exact ent
end Hd
end
section
namespace Hd
set_option maxRecDepth 100000
open Go

/-- a bucket: its slice, what the slice holds, how many of them went -/
structure Bkt where
  v : Value
  xs : List Int
  gone : Int
def bktL (B : List Bkt) : List Value := B.flatMap fun x => [x.v, .int .i64 x.gone]
def ringL (a l : Int) (B : List Bkt) : List Value := .int .i64 a :: .int .i64 l :: bktL B
abbrev slK (x : Bkt) : HP := Sl eI x.v x.xs
abbrev ringB (b : Nat) (a l : Int) (B : List Bkt) : HP := Blk b 148 (ringL a l B)

theorem bkt_nth : ∀ (B : List Bkt) (i : Nat) (x : Bkt), B[i]? = some x → nth (bktL B) (i * 2) = some x.v ∧ nth (bktL B) (i * 2 + 1) = some (.int .i64 x.gone)
  | [], i, x, h => by simp at h
  | y :: B, 0, x, h => by simp at h; subst h; exact ⟨rfl, rfl⟩
  | y :: B, i + 1, x, h => by
    have := bkt_nth B i x (by simpa using h)
    have e : (i + 1) * 2 = i * 2 + 1 + 1 := by omega
    rw [e]
    exact this
theorem bkt_set : ∀ (B : List Bkt) (i : Nat) (x : Bkt), B[i]? = some x → (∀ v ys, (bktL B).set (i * 2) v = bktL (B.set i ⟨v, ys, x.gone⟩)) ∧ (∀ g, (bktL B).set (i * 2 + 1) (.int .i64 g) = bktL (B.set i ⟨x.v, x.xs, g⟩))
  | [], i, x, h => by simp at h
  | y :: B, 0, x, h => by simp at h; subst h; exact ⟨fun _ _ => rfl, fun _ => rfl⟩
  | y :: B, i + 1, x, h => by
    have := bkt_set B i x (by simpa using h)
    have e : (i + 1) * 2 = i * 2 + 1 + 1 := by omega
    have e2 : ∀ C : List Bkt, bktL (y :: C) = y.v :: .int .i64 y.gone :: bktL C := fun _ => rfl
    rw [e]
    constructor
    · intro v ys; rw [List.set_cons_succ, e2, e2, List.set_cons_succ, List.set_cons_succ, this.1 v ys]
    · intro g; rw [List.set_cons_succ, e2, e2, List.set_cons_succ, List.set_cons_succ, this.2 g]
theorem bkt_len : ∀ B : List Bkt, (bktL B).length = B.length * 2
  | [] => rfl
  | y :: B => by have := bkt_len B; simp only [bktL, List.flatMap_cons, List.length_append, List.length_cons, List.length_nil] at this ⊢; omega
theorem ring_nth {a l : Int} {B : List Bkt} {i : Nat} {x : Bkt} (h : B[i]? = some x) : nth (ringL a l B) (2 + i * 2) = some x.v ∧ nth (ringL a l B) (2 + i * 2 + 1) = some (.int .i64 x.gone) := by
  have := bkt_nth B i x h
  rw [show 2 + i * 2 = i * 2 + 1 + 1 by omega]
  exact this
theorem ring_set {a l : Int} {B : List Bkt} {i : Nat} {x : Bkt} (h : B[i]? = some x) : (∀ v ys, ringL a l (B.set i ⟨v, ys, x.gone⟩) = (ringL a l B).set (2 + i * 2) v) ∧ (∀ g, ringL a l (B.set i ⟨x.v, x.xs, g⟩) = (ringL a l B).set (2 + i * 2 + 1) (.int .i64 g)) := by
  have := bkt_set B i x h
  rw [show 2 + i * 2 = i * 2 + 1 + 1 by omega]
  constructor
  · intro v ys; rw [ringL, ringL, List.set_cons_succ, List.set_cons_succ, this.1 v ys]
  · intro g; rw [ringL, ringL, List.set_cons_succ, List.set_cons_succ, this.2 g]
theorem ring_len (a l : Int) (B : List Bkt) : (ringL a l B).length = 2 + B.length * 2 := by simp [ringL, bkt_len]; omega
theorem ring_blt {a l : Int} {B : List Bkt} {i o : Nat} (h : i < B.length) (ho : o < 2) : Nat.blt (2 + i * 2 + o) (ringL a l B).length = true := by rw [ring_len]; simp [Nat.blt_eq]; omega

theorem bucket_put (b : Nat) (a l : Int) (B : List Bkt) (i : Nat) (x : Bkt) (item : Int) (hi : B[i]? = some x) (hx : x.xs.length ≤ 2^40) :
    Spec PP 155 #[.pointer (some ⟨b, 2 + i * 2, none⟩), .int .i64 item] [ringB b a l B, slK x]
      (fun v M => v = .tuple #[] ∧ ∃ y : Bkt, y.xs = x.xs ++ [item] ∧ y.gone = x.gone ∧ M = [ringB b a l (B.set i y), slK y]) := by
  have hlt := lt_of_get hi
  refine spec_of (Go.Proofs.Tryz.func155) rfl rfl rfl (by exact fc_enters_155) ?_
  intro g F
  try dsimp only [List.cons_append, List.nil_append]
  refine r_reg ?_
  refine ws (st_po (po_move rfl) rfl rfl rfl ?_)
  refine ws (st_po (po_move rfl) rfl rfl rfl ?_)
  refine ws (st_po (po_nil rfl) rfl rfl rfl ?_)
  refine ws (st_po (po_faddr rfl (by exact fc_field_145_0_0)) rfl rfl rfl ?_)
  refine ws (st_po (po_load rfl (by exact fc_flat_35) (ring_nth hi).1) rfl rfl rfl ?_)
  refine ws (st_po (po_move rfl) rfl rfl rfl ?_)
  refine ws (st_xo (xo_bslice eI [_] rfl (by exact fc_slice_35_3_1) (by exact fc_elem_3_1_8) ⟨rfl, rfl, trivial⟩ rfl (by decide)) rfl rfl rfl ?_)
  rintro v10 _ rfl
  refine ws (st_xo (xo_append rfl rfl (by exact fc_slice_35_3_1) (by exact fc_slice_35_3_1) (by exact fc_elem_3_1_8) (by first | omega | (simp only [List.length_nil, List.length_cons, List.length_append, List.length_replicate, List.length_set, List.length_map, List.length_take, List.length_drop]; omega)) (by first | omega | (simp only [List.length_nil, List.length_cons, List.length_append, List.length_replicate, List.length_set, List.length_map, List.length_take, List.length_drop]; omega))) rfl rfl rfl ?_)
  rintro v11 _ rfl
  refine ws (st_po (po_nil rfl) rfl rfl rfl ?_)
  refine ws (st_po (po_faddr rfl (by exact fc_field_145_0_0)) rfl rfl rfl ?_)
  refine ws (st_so (so_store1 rfl rfl (by exact fc_flat_35) (s := ⟨(ring_set hi).1 _ (x.xs ++ [item])⟩) (ring_blt hlt (by decide))) rfl rfl ?_)
  refine s_nil ?_
  refine at_end0 rfl ⟨_, ⟨rfl, ⟨v11, _, _⟩, rfl, rfl, rfl⟩, ?_⟩
  try dsimp only [List.cons_append, List.nil_append]
  exact ent
theorem bucket_empty (b : Nat) (a l : Int) (B : List Bkt) (i : Nat) (x : Bkt) (hi : B[i]? = some x) :
    Spec PP 141 #[.pointer (some ⟨b, 2 + i * 2, none⟩)] [ringB b a l B, slK x] (fun v M => v = .bool (decide (x.gone = x.xs.length)) ∧ M = [ringB b a l B, slK x]) := by
  refine spec_of (Go.Proofs.Tryz.func141) rfl rfl rfl (by exact fc_enters_141) ?_
  intro g F
  try dsimp only [List.cons_append, List.nil_append]
  refine r_seq ?_
  refine r_reg ?_
  refine ws (st_po (po_assign rfl) rfl rfl rfl ?_)
  refine s_nil ?_
  refine at_then_wp ?_
  refine r_seq ?_
  refine r_ord [] _ [(0, 1), (1, 1), (2, 1), (3, 0), (4, 1), (5, 1), (6, 1), (7, 0), (8, 0), (9, 1), (10, 1)] fc_mixed (by kernel_rfl) (fun _ h => h) ?_
  refine o_fr rfl (po_move rfl) rfl rfl rfl ?_
  refine o_fr rfl (po_nil rfl) rfl rfl rfl ?_
  refine o_fr rfl (po_faddr rfl (by exact fc_field_145_1_1)) rfl rfl rfl ?_
  refine o_rd rfl (po_load rfl (by exact fc_flat_3) (ring_nth hi).2) (by first | exact fun _ h => h | exact ent) rfl rfl rfl ?_
  refine o_fr rfl (po_move rfl) rfl rfl rfl ?_
  refine o_fr rfl (po_nil rfl) rfl rfl rfl ?_
  refine o_fr rfl (po_faddr rfl (by exact fc_field_145_0_0)) rfl rfl rfl ?_
  refine o_rd rfl (po_load rfl (by exact fc_flat_35) (ring_nth hi).1) (by first | exact fun _ h => h | exact ent) rfl rfl rfl ?_
  refine o_rd rfl (po_len rfl (by exact fc_slice_35_3_1)) (by first | exact fun _ h => h | exact ent) rfl rfl rfl ?_
  refine o_fr rfl (po_eq rfl rfl) rfl rfl rfl ?_
  refine o_fr rfl (po_assign rfl) rfl rfl rfl ?_
  refine o_nil ?_
  refine at_then_wp ?_
  refine r_ret ?_
  refine at_ret1 rfl (rv_tmp rfl) ⟨_, ⟨rfl, rfl⟩, ?_⟩
  try dsimp only [List.cons_append, List.nil_append]
  exact ent

/-- what waits in a bucket -/
def Bkt.q (x : Bkt) : List Int := x.xs.drop x.gone.toNat
theorem bucket_pop (b : Nat) (a l : Int) (B : List Bkt) (i : Nat) (x : Bkt) (hi : B[i]? = some x) (hx : x.xs.length ≤ 2^40) (h0 : 0 ≤ x.gone) (h1 : x.gone < x.xs.length) :
    Spec PP 142 #[.pointer (some ⟨b, 2 + i * 2, none⟩)] [ringB b a l B, slK x]
      (fun v M => ∃ (y : Bkt) (it : Int), v = .int .i64 it ∧ x.q = it :: y.q ∧ y.xs.length ≤ x.xs.length ∧ (0 ≤ y.gone ∧ y.gone ≤ y.xs.length) ∧ M = [ringB b a l (B.set i y), slK y]) := by
  have hlt := lt_of_get hi
  have hi2 : (B.set i ⟨x.v, x.xs, x.gone + 1⟩)[i]? = some ⟨x.v, x.xs, x.gone + 1⟩ := by simp [hlt]
  have hq : x.q = x.xs[x.gone.toNat] :: x.xs.drop (x.gone + 1).toNat := by rw [Bkt.q, List.drop_eq_getElem_cons (by omega), show (x.gone + 1).toNat = x.gone.toNat + 1 by omega]
  refine spec_of (Go.Proofs.Tryz.func142) rfl rfl rfl (by exact fc_enters_142) ?_
  intro g F
  try dsimp only [List.cons_append, List.nil_append]
  refine r_seq ?_
  refine r_reg ?_
  refine ws (st_po (po_assign rfl) rfl rfl rfl ?_)
  refine s_nil ?_
  refine at_then_wp ?_
  refine r_seq ?_
  refine r_ord [] _ [(0, 1), (1, 1), (2, 1), (3, 0), (4, 1), (5, 1), (6, 1), (7, 0), (8, 0), (9, 0), (10, 1)] fc_mixed (by kernel_rfl) (fun _ h => h) ?_
  refine o_fr rfl (po_move rfl) rfl rfl rfl ?_
  refine o_fr rfl (po_nil rfl) rfl rfl rfl ?_
  refine o_fr rfl (po_faddr rfl (by exact fc_field_145_0_0)) rfl rfl rfl ?_
  refine o_rd rfl (po_load rfl (by exact fc_flat_35) (ring_nth hi).1) (by first | exact fun _ h => h | exact ent) rfl rfl rfl ?_
  refine o_fr rfl (po_move rfl) rfl rfl rfl ?_
  refine o_fr rfl (po_nil rfl) rfl rfl rfl ?_
  refine o_fr rfl (po_faddr rfl (by exact fc_field_145_1_1)) rfl rfl rfl ?_
  refine o_rd rfl (po_load rfl (by exact fc_flat_3) (ring_nth hi).2) (by first | exact fun _ h => h | exact ent) rfl rfl rfl ?_
  refine o_rd rfl (po_iaddr rfl rfl (by exact fc_slice_35_3_1) (by first | omega | (simp only [List.length_nil, List.length_cons, List.length_append, List.length_replicate, List.length_set, List.length_map, List.length_take, List.length_drop]; omega)) (by first | omega | (simp only [List.length_nil, List.length_cons, List.length_append, List.length_replicate, List.length_set, List.length_map, List.length_take, List.length_drop]; omega))) (by first | exact fun _ h => h | exact ent) rfl rfl rfl ?_
  refine o_rd rfl (po_load_sl rfl (List.getElem?_eq_getElem (by first | omega | (simp only [List.length_nil, List.length_cons, List.length_append, List.length_replicate, List.length_set, List.length_map, List.length_take, List.length_drop]; omega))) (by exact fc_flat_3) (by rfl)) (by first | exact fun _ h => h | exact ent) rfl rfl rfl ?_
  refine o_fr rfl (po_assign rfl) rfl rfl rfl ?_
  refine o_nil ?_
  refine at_then_wp ?_
  refine r_seq ?_
  refine r_reg ?_
  refine ws (st_po (po_move rfl) rfl rfl rfl ?_)
  refine ws (st_po (po_nil rfl) rfl rfl rfl ?_)
  refine ws (st_po (po_faddr rfl (by exact fc_field_145_1_1)) rfl rfl rfl ?_)
  refine ws (st_po (po_load rfl (by exact fc_flat_3) (ring_nth hi).2) rfl rfl rfl ?_)
  refine ws (st_po (po_add' rfl rfl (by omega) (by omega)) rfl rfl rfl ?_)
  refine ws (st_po (po_nil rfl) rfl rfl rfl ?_)
  refine ws (st_po (po_faddr rfl (by exact fc_field_145_1_1)) rfl rfl rfl ?_)
  refine ws (st_so (so_store1 rfl rfl (by exact fc_flat_3) (s := ⟨(ring_set hi).2 (x.gone + 1)⟩) (ring_blt hlt (by decide))) rfl rfl ?_)
  refine s_nil ?_
  refine at_then_wp ?_
  refine r_seq ?_
  refine r_seq ?_
  refine r_reg ?_
  refine ws (st_po (po_move rfl) rfl rfl rfl ?_)
  refine ws (st_call (co_fn rfl rfl) (bucket_empty b a l _ i ⟨x.v, x.xs, x.gone + 1⟩ hi2) (by infer_instance) rfl rfl rfl ?_)
  rintro v22 _ ⟨rfl, rfl⟩
  try dsimp only [List.cons_append, List.nil_append]
  refine s_nil ?_
  refine at_then_wp ?_
  first | refine r_cond_not rfl ?_ ?_ | refine r_cond_dec rfl ?_ ?_ | refine r_cond rfl ?_ ?_
  · intro he
    refine r_reg ?_
    refine ws (st_po (po_move rfl) rfl rfl rfl ?_)
    refine ws (st_po (po_move rfl) rfl rfl rfl ?_)
    refine ws (st_po (po_move rfl) rfl rfl rfl ?_)
    refine ws (st_po (po_nil rfl) rfl rfl rfl ?_)
    refine ws (st_po (po_faddr rfl (by exact fc_field_145_0_0)) rfl rfl rfl ?_)
    refine ws (st_po (po_load rfl (by exact fc_flat_35) (ring_nth hi2).1) rfl rfl rfl ?_)
    refine ws (st_po (po_slice_h rfl rfl (by exact fc_slice_35_3_1) (by first | omega | (simp only [List.length_nil, List.length_cons, List.length_append, List.length_replicate, List.length_set, List.length_map, List.length_take, List.length_drop]; omega)) (by first | omega | (simp only [List.length_nil, List.length_cons, List.length_append, List.length_replicate, List.length_set, List.length_map, List.length_take, List.length_drop]; omega))) rfl rfl rfl ?_)
    refine ws (st_po (po_nil rfl) rfl rfl rfl ?_)
    refine ws (st_po (po_faddr rfl (by exact fc_field_145_0_0)) rfl rfl rfl ?_)
    refine ws (st_so (so_store1 rfl rfl (by exact fc_flat_35) (s := ⟨(ring_set hi2).1 _ []⟩) (ring_blt (by simpa using hlt) (by decide))) rfl rfl ?_)
    refine ws (st_po (po_nil rfl) rfl rfl rfl ?_)
    refine ws (st_po (po_faddr rfl (by exact fc_field_145_1_1)) rfl rfl rfl ?_)
    refine ws (st_so (so_store1 rfl rfl (by exact fc_flat_3) (s := ⟨(ring_set (x := ⟨subv eI.k 0 (0 : Int).toNat x.v, [], x.gone + 1⟩) (by simp [hlt])).2 0⟩) (ring_blt (by simpa using hlt) (by decide))) rfl rfl ?_)
    refine s_nil ?_
    refine at_then_wp ?_
    refine r_seq ?_
    refine r_reg ?_
    refine ws (st_po (po_move rfl) rfl rfl rfl ?_)
    refine ws (st_po (po_assign rfl) rfl rfl rfl ?_)
    refine s_nil ?_
    refine at_then_wp ?_
    refine r_ret ?_
    refine at_ent (ent_sub (E := eI) (s := x.v) (xs := x.xs) 0 (0 : Int).toNat (by decide) (by simp)) ?_
    simp only [List.set_set]
    simp only [show (0 : Int).toNat = 0 from rfl, List.take_zero, List.drop_zero]
    refine at_ret1 rfl (rv_tmp rfl) ⟨_, ⟨⟨subv eI.k 0 0 x.v, [], 0⟩, _, rfl, by rw [hq, List.drop_eq_nil_of_le (by omega)]; rfl, by simp, by simp, rfl⟩, ?_⟩
    try dsimp only [List.cons_append, List.nil_append]
    exact ent
  · intro he
    refine r_skip ?_
    refine at_then_wp ?_
    refine r_seq ?_
    refine r_reg ?_
    refine ws (st_po (po_move rfl) rfl rfl rfl ?_)
    refine ws (st_po (po_assign rfl) rfl rfl rfl ?_)
    refine s_nil ?_
    refine at_then_wp ?_
    refine r_ret ?_
    refine at_ret1 rfl (rv_tmp rfl) ⟨_, ⟨⟨x.v, x.xs, x.gone + 1⟩, _, rfl, hq, by simp, by dsimp only; omega, rfl⟩, ?_⟩
    try dsimp only [List.cons_append, List.nil_append]
    exact ent

/-! ## the ring -/
instance (a l : Int) (B : List Bkt) : NthC (ringL a l B) 0 (.int .i64 a) := ⟨rfl⟩

theorem all_take {X : Type} (f : X → HP) : ∀ (B : List X) (i : Nat) (x : X) (R : List HP), B[i]? = some x → ∀ h, Sat (All (B.map f) :: R) h → Sat (f x :: All ((B.eraseIdx i).map f) :: R) h
  | [], i, x, R, e => by simp at e
  | y :: B, 0, x, R, e => by simp at e; subst e; exact fun h s => all_cons.1 s
  | y :: B, i + 1, x, R, e => fun h s => by
    have s1 : Sat (All (B.map f) :: f y :: R) h := sat_swap (all_cons.1 s)
    have s2 := all_take f B i x (f y :: R) (by simpa using e) h s1
    exact sat_tail (fun _ t => all_cons.2 (sat_swap t)) s2
theorem all_put {X : Type} (f : X → HP) : ∀ (B : List X) (i : Nat) (y : X) (R : List HP), i < B.length → ∀ h, Sat (f y :: All ((B.eraseIdx i).map f) :: R) h → Sat (All ((B.set i y).map f) :: R) h
  | [], i, y, R, e => by simp at e
  | z :: B, 0, y, R, e => fun h s => all_cons.2 s
  | z :: B, i + 1, y, R, e => fun h s => by
    have s1 : Sat (f y :: f z :: All ((B.eraseIdx i).map f) :: R) h := sat_tail (fun _ t => all_cons.1 t) s
    have s2 : Sat (f z :: f y :: All ((B.eraseIdx i).map f) :: R) h := sat_swap s1
    exact all_cons.2 (sat_tail (fun g t => all_put f B i y R (by simpa using e) g t) s2)
theorem ent_take {X : Type} (f : X → HP) (B : List X) {i : Nat} {x : X} (e : B[i]? = some x) {L R : List HP} [m : Has L (All (B.map f)) R] : ∀ h, Sat L h → Sat (f x :: All ((B.eraseIdx i).map f) :: R) h := fun h s => all_take f B i x R e h (m.out h s)
theorem ent_put {X : Type} (f : X → HP) (B : List X) {i : Nat} (y : X) (e : i < B.length) {L R R' : List HP} [m : Has L (f y) R] [m2 : Has R (All ((B.eraseIdx i).map f)) R'] : ∀ h, Sat L h → Sat (All ((B.set i y).map f) :: R') h :=
  fun h s => all_put f B i y R' e h (sat_tail m2.out (m.out h s))

theorem set_same {X : Type} {B : List X} {i : Nat} {x : X} (h : B[i]? = some x) : B.set i x = B := by
  apply List.ext_getElem?
  intro j
  rw [List.getElem?_set]
  by_cases e : i = j
  · subst e; rw [if_pos rfl, if_pos (lt_of_get h), h]
  · rw [if_neg e]
abbrev ringP (b : Nat) : Value := .pointer (some ⟨b, 0, none⟩)
theorem ring_Len (b : Nat) (a l : Int) (B : List Bkt) : Spec PP 111 #[ringP b] [ringB b a l B] (fun v M => v = .int .i64 l ∧ M = [ringB b a l B]) := by
  refine spec_of (Go.Proofs.Tryz.func111) rfl rfl rfl (by exact fc_enters_111) ?_
  intro g F
  try dsimp only [List.cons_append, List.nil_append]
  refine r_seq ?_
  refine r_reg ?_
  refine ws (st_po (po_assign rfl) rfl rfl rfl ?_)
  refine s_nil ?_
  refine at_then_wp ?_
  refine r_seq ?_
  refine r_seq ?_
  refine r_reg ?_
  refine ws (st_po (po_move rfl) rfl rfl rfl ?_)
  refine ws (st_po (po_peq rfl rfl (by exact fc_ptr_115)) rfl rfl rfl ?_)
  refine s_nil ?_
  refine at_then_wp ?_
  refine r_cond_f rfl (rfl) ?_
  refine r_skip ?_
  refine at_then_wp ?_
  refine r_seq ?_
  refine r_reg ?_
  refine ws (st_po (po_move rfl) rfl rfl rfl ?_)
  refine ws (st_po (po_nil rfl) rfl rfl rfl ?_)
  refine ws (st_po (po_faddr rfl (by exact fc_field_148_1_1)) rfl rfl rfl ?_)
  refine ws (st_po (po_load rfl (by exact fc_flat_3) (by rfl)) rfl rfl rfl ?_)
  refine ws (st_po (po_assign rfl) rfl rfl rfl ?_)
  refine s_nil ?_
  refine at_then_wp ?_
  refine r_ret ?_
  refine at_ret1 rfl (rv_tmp rfl) ⟨_, ⟨rfl, rfl⟩, ?_⟩
  try dsimp only [List.cons_append, List.nil_append]
  exact ent
theorem ring_Jump (b : Nat) (a l : Int) (B : List Bkt) (key : Int) : Spec PP 139 #[ringP b, .int .i64 key] [ringB b a l B]
    (fun v M => v = .bool (decide (l ≤ 0 ∧ a ≤ key ∧ key ≤ 1099511627776)) ∧ M = [ringB b (if l ≤ 0 ∧ a ≤ key ∧ key ≤ 1099511627776 then key else a) l B]) := by
  refine spec_of (Go.Proofs.Tryz.func139) rfl rfl rfl (by exact fc_enters_139) ?_
  intro g F
  try dsimp only [List.cons_append, List.nil_append]
  refine r_seq ?_
  refine r_reg ?_
  refine ws (st_po (po_assign rfl) rfl rfl rfl ?_)
  refine s_nil ?_
  refine at_then_wp ?_
  refine r_seq ?_
  refine r_seq ?_
  refine r_reg ?_
  refine ws (st_po (po_move rfl) rfl rfl rfl ?_)
  refine ws (st_po (po_peq rfl rfl (by exact fc_ptr_115)) rfl rfl rfl ?_)
  refine ws (st_po (po_bf (po_move rfl) (rfl)) rfl rfl rfl ?_)
  refine ws (st_po (po_move rfl) rfl rfl rfl ?_)
  refine ws (st_po (po_nil rfl) rfl rfl rfl ?_)
  refine ws (st_po (po_faddr rfl (by exact fc_field_148_1_1)) rfl rfl rfl ?_)
  refine ws (st_po (po_load rfl (by exact fc_flat_3) (by rfl)) rfl rfl rfl ?_)
  refine ws (st_po (po_gt rfl rfl) rfl rfl rfl ?_)
  refine ws (st_po (po_pick_f rfl rfl) rfl rfl rfl ?_)
  by_cases h1 : 0 < l
  · skip
    refine ws (st_po (po_bt (po_move rfl) (decide_eq_true h1)) rfl rfl rfl ?_)
    refine ws (st_no rfl rfl rfl ?_)
    refine ws (st_no rfl rfl rfl ?_)
    refine ws (st_no rfl rfl rfl ?_)
    refine ws (st_no rfl rfl rfl ?_)
    refine ws (st_no rfl rfl rfl ?_)
    refine ws (st_no rfl rfl rfl ?_)
    refine ws (st_po (po_pick_t rfl rfl) rfl rfl rfl ?_)
    refine ws (st_po (po_move rfl) rfl rfl rfl ?_)
    refine ws (st_no rfl rfl rfl ?_)
    refine ws (st_no rfl rfl rfl ?_)
    refine ws (st_po (po_pick_t rfl rfl) rfl rfl rfl ?_)
    refine s_nil ?_
    refine at_then_wp ?_
    refine r_cond_t rfl rfl ?_
    refine r_seq ?_
    refine r_reg ?_
    refine ws (st_po (po_assign rfl) rfl rfl rfl ?_)
    refine s_nil ?_
    refine at_then_wp ?_
    refine r_ret ?_
    refine at_then_ret ?_
    refine at_ret1 rfl (rv_tmp rfl) ⟨_, ⟨by rw [decide_eq_false (by omega)], by rw [if_neg (by omega)]⟩, ?_⟩
    try dsimp only [List.cons_append, List.nil_append]
    exact ent
  · skip
    refine ws (st_po (po_bf (po_move rfl) (decide_eq_false h1)) rfl rfl rfl ?_)
    refine ws (st_po (po_move rfl) rfl rfl rfl ?_)
    refine ws (st_po (po_move rfl) rfl rfl rfl ?_)
    refine ws (st_po (po_nil rfl) rfl rfl rfl ?_)
    refine ws (st_po (po_faddr rfl (by exact fc_field_148_0_0)) rfl rfl rfl ?_)
    refine ws (st_po (po_load rfl (by exact fc_flat_3) (by rfl)) rfl rfl rfl ?_)
    refine ws (st_po (po_lt rfl rfl) rfl rfl rfl ?_)
    refine ws (st_po (po_pick_f rfl rfl) rfl rfl rfl ?_)
    by_cases h2 : key < a
    · skip
      refine ws (st_po (po_bt (po_move rfl) (decide_eq_true h2)) rfl rfl rfl ?_)
      refine ws (st_no rfl rfl rfl ?_)
      refine ws (st_no rfl rfl rfl ?_)
      refine ws (st_po (po_pick_t rfl rfl) rfl rfl rfl ?_)
      refine s_nil ?_
      refine at_then_wp ?_
      refine r_cond_t rfl rfl ?_
      refine r_seq ?_
      refine r_reg ?_
      refine ws (st_po (po_assign rfl) rfl rfl rfl ?_)
      refine s_nil ?_
      refine at_then_wp ?_
      refine r_ret ?_
      refine at_then_ret ?_
      refine at_ret1 rfl (rv_tmp rfl) ⟨_, ⟨by rw [decide_eq_false (by omega)], by rw [if_neg (by omega)]⟩, ?_⟩
      try dsimp only [List.cons_append, List.nil_append]
      exact ent
    · skip
      refine ws (st_po (po_bf (po_move rfl) (decide_eq_false h2)) rfl rfl rfl ?_)
      refine ws (st_po (po_move rfl) rfl rfl rfl ?_)
      refine ws (st_po (po_gt rfl rfl) rfl rfl rfl ?_)
      refine ws (st_po (po_pick_f rfl rfl) rfl rfl rfl ?_)
      refine s_nil ?_
      refine at_then_wp ?_
      first | refine r_cond_not rfl ?_ ?_ | refine r_cond_dec rfl ?_ ?_ | refine r_cond rfl ?_ ?_
      · intro h3
        refine r_seq ?_
        refine r_reg ?_
        refine ws (st_po (po_assign rfl) rfl rfl rfl ?_)
        refine s_nil ?_
        refine at_then_wp ?_
        refine r_ret ?_
        refine at_then_ret ?_
        refine at_ret1 rfl (rv_tmp rfl) ⟨_, ⟨by rw [decide_eq_false (by omega)], by rw [if_neg (by omega)]⟩, ?_⟩
        try dsimp only [List.cons_append, List.nil_append]
        exact ent
      · intro h3
        refine r_skip ?_
        refine at_then_wp ?_
        refine r_seq ?_
        refine r_reg ?_
        refine ws (st_po (po_move rfl) rfl rfl rfl ?_)
        refine ws (st_po (po_move rfl) rfl rfl rfl ?_)
        refine ws (st_po (po_nil rfl) rfl rfl rfl ?_)
        refine ws (st_po (po_faddr rfl (by exact fc_field_148_0_0)) rfl rfl rfl ?_)
        refine ws (st_so (so_store1 rfl rfl (by exact fc_flat_3) (s := ⟨(rfl : ringL key l B = (ringL a l B).set 0 (.int .i64 key))⟩) rfl) rfl rfl ?_)
        refine s_nil ?_
        refine at_then_wp ?_
        refine r_seq ?_
        refine r_reg ?_
        refine ws (st_po (po_assign rfl) rfl rfl rfl ?_)
        refine s_nil ?_
        refine at_then_wp ?_
        refine r_ret ?_
        refine at_ret1 rfl (rv_tmp rfl) ⟨_, ⟨by rw [decide_eq_true (by omega)], by rw [if_pos (by omega)]⟩, ?_⟩
        try dsimp only [List.cons_append, List.nil_append]
        exact ent
theorem ring_Put (b : Nat) (a l : Int) (B : List Bkt) (key item : Int) (x : Bkt) (ha : 0 ≤ a) (hk : -9223372036854775808 ≤ key - a ∧ key - a ≤ 9223372036854775807) (hB : B.length = 256) (hx : B[(key % 256).toNat]? = some x) (hl : x.xs.length ≤ 2^40) (hl2 : -1 ≤ l ∧ l ≤ 2^60) :
    Spec PP 140 #[ringP b, .int .i64 key, .int .i64 item] [ringB b a l B, All (B.map slK)]
      (fun v M => (a ≤ key ∧ key - a < 256 ∧ v = .bool true ∧ ∃ y : Bkt, y.xs = x.xs ++ [item] ∧ y.gone = x.gone ∧ M = [ringB b a (l + 1) (B.set (key % 256).toNat y), All ((B.set (key % 256).toNat y).map slK)]) ∨
        (¬ (a ≤ key ∧ key - a < 256) ∧ v = .bool false ∧ M = [ringB b a l B, All (B.map slK)])) := by
  refine spec_of (Go.Proofs.Tryz.func140) rfl rfl rfl (by exact fc_enters_140) ?_
  intro g F
  try dsimp only [List.cons_append, List.nil_append]
  refine r_seq ?_
  refine r_reg ?_
  refine ws (st_po (po_assign rfl) rfl rfl rfl ?_)
  refine s_nil ?_
  refine at_then_wp ?_
  refine r_seq ?_
  refine r_seq ?_
  refine r_reg ?_
  refine ws (st_po (po_move rfl) rfl rfl rfl ?_)
  refine ws (st_po (po_peq rfl rfl (by exact fc_ptr_115)) rfl rfl rfl ?_)
  refine ws (st_po (po_bf (po_move rfl) (rfl)) rfl rfl rfl ?_)
  refine ws (st_po (po_move rfl) rfl rfl rfl ?_)
  refine ws (st_po (po_move rfl) rfl rfl rfl ?_)
  refine ws (st_po (po_nil rfl) rfl rfl rfl ?_)
  refine ws (st_po (po_faddr rfl (by exact fc_field_148_0_0)) rfl rfl rfl ?_)
  refine ws (st_po (po_load rfl (by exact fc_flat_3) (by rfl)) rfl rfl rfl ?_)
  refine ws (st_po (po_lt rfl rfl) rfl rfl rfl ?_)
  refine ws (st_po (po_pick_f rfl rfl) rfl rfl rfl ?_)
  by_cases h1 : key < a
  · skip
    refine ws (st_po (po_bt (po_move rfl) (decide_eq_true h1)) rfl rfl rfl ?_)
    refine ws (st_no rfl rfl rfl ?_)
    refine ws (st_no rfl rfl rfl ?_)
    refine ws (st_no rfl rfl rfl ?_)
    refine ws (st_no rfl rfl rfl ?_)
    refine ws (st_no rfl rfl rfl ?_)
    refine ws (st_no rfl rfl rfl ?_)
    refine ws (st_no rfl rfl rfl ?_)
    refine ws (st_po (po_pick_t rfl rfl) rfl rfl rfl ?_)
    refine s_nil ?_
    refine at_then_wp ?_
    refine r_cond_t rfl rfl ?_
    refine r_seq ?_
    refine r_reg ?_
    refine ws (st_po (po_assign rfl) rfl rfl rfl ?_)
    refine s_nil ?_
    refine at_then_wp ?_
    refine r_ret ?_
    refine at_then_ret ?_
    refine at_ret1 rfl (rv_tmp rfl) ⟨_, .inr ⟨by omega, rfl, rfl⟩, ?_⟩
    try dsimp only [List.cons_append, List.nil_append]
    exact ent
  · skip
    refine ws (st_po (po_bf (po_move rfl) (decide_eq_false h1)) rfl rfl rfl ?_)
    refine ws (st_po (po_move rfl) rfl rfl rfl ?_)
    refine ws (st_po (po_move rfl) rfl rfl rfl ?_)
    refine ws (st_po (po_nil rfl) rfl rfl rfl ?_)
    refine ws (st_po (po_faddr rfl (by exact fc_field_148_0_0)) rfl rfl rfl ?_)
    refine ws (st_po (po_load rfl (by exact fc_flat_3) (by rfl)) rfl rfl rfl ?_)
    refine ws (st_po (po_sub' rfl rfl (by omega) (by omega)) rfl rfl rfl ?_)
    refine ws (st_po (po_ge rfl rfl) rfl rfl rfl ?_)
    refine ws (st_po (po_pick_f rfl rfl) rfl rfl rfl ?_)
    refine s_nil ?_
    refine at_then_wp ?_
    first | refine r_cond_not rfl ?_ ?_ | refine r_cond_dec rfl ?_ ?_ | refine r_cond rfl ?_ ?_
    · intro h2
      refine r_seq ?_
      refine r_reg ?_
      refine ws (st_po (po_assign rfl) rfl rfl rfl ?_)
      refine s_nil ?_
      refine at_then_wp ?_
      refine r_ret ?_
      refine at_then_ret ?_
      refine at_ret1 rfl (rv_tmp rfl) ⟨_, .inr ⟨by omega, rfl, rfl⟩, ?_⟩
      try dsimp only [List.cons_append, List.nil_append]
      exact ent
    · intro h2
      refine r_skip ?_
      refine at_then_wp ?_
      refine r_seq ?_
      refine wp_ent (ent_take slK B hx) ?_
      refine r_reg ?_
      refine ws (st_po (po_move rfl) rfl rfl rfl ?_)
      refine ws (st_po (po_move rfl) rfl rfl rfl ?_)
      refine ws (st_po (po_rem' rfl rfl (by omega) (by omega)) rfl rfl rfl ?_)
      refine ws (st_po (po_nil rfl) rfl rfl rfl ?_)
      refine ws (st_po (po_faddr rfl (by exact fc_field_148_2_2)) rfl rfl rfl ?_)
      refine ws (st_po (po_iaddr_arr rfl rfl (by exact fc_arr_146_256_145_2) (by first | omega | (simp only [List.length_nil, List.length_cons, List.length_append, List.length_replicate, List.length_set, List.length_map, List.length_take, List.length_drop]; omega)) (by first | omega | (simp only [List.length_nil, List.length_cons, List.length_append, List.length_replicate, List.length_set, List.length_map, List.length_take, List.length_drop]; omega))) rfl rfl rfl ?_)
      refine ws (st_po (po_move rfl) rfl rfl rfl ?_)
      refine ws (st_call (co_fn rfl rfl) (bucket_put b a l B _ x item hx hl) (by infer_instance) rfl rfl rfl ?_)
      rintro v33 _ ⟨rfl, y, hy1, hy2, rfl⟩
      try dsimp only [List.cons_append, List.nil_append]
      refine s_nil ?_
      refine at_then_wp ?_
      refine r_seq ?_
      refine wp_ent (ent_put slK B (i := (key % 256).toNat) y (by omega)) ?_
      refine r_reg ?_
      refine ws (st_po (po_move rfl) rfl rfl rfl ?_)
      refine ws (st_po (po_nil rfl) rfl rfl rfl ?_)
      refine ws (st_po (po_faddr rfl (by exact fc_field_148_1_1)) rfl rfl rfl ?_)
      refine ws (st_po (po_load rfl (by exact fc_flat_3) (by rfl)) rfl rfl rfl ?_)
      refine ws (st_po (po_add' rfl rfl (by omega) (by omega)) rfl rfl rfl ?_)
      refine ws (st_po (po_nil rfl) rfl rfl rfl ?_)
      refine ws (st_po (po_faddr rfl (by exact fc_field_148_1_1)) rfl rfl rfl ?_)
      refine ws (st_so (so_store1 rfl rfl (by exact fc_flat_3) (s := ⟨(rfl : ringL a (l + 1) (B.set (key % 256).toNat y) = (ringL a l (B.set (key % 256).toNat y)).set 1 (.int .i64 (l + 1)))⟩) rfl) rfl rfl ?_)
      refine s_nil ?_
      refine at_then_wp ?_
      refine r_seq ?_
      refine r_reg ?_
      refine ws (st_po (po_assign rfl) rfl rfl rfl ?_)
      refine s_nil ?_
      refine at_then_wp ?_
      refine r_ret ?_
      refine at_ret1 rfl (rv_tmp rfl) ⟨_, .inl ⟨by omega, by omega, rfl, y, hy1, hy2, rfl⟩, ?_⟩
      try dsimp only [List.cons_append, List.nil_append]
      exact ent

/-- the first key, from a on, under which something waits -/
def FirstKey (B : List Bkt) (a k : Int) : Prop := a ≤ k ∧ (∀ j, a ≤ j → j < k → ∀ x, B[(j % 256).toNat]? = some x → x.gone = x.xs.length) ∧ ∃ x, B[(k % 256).toNat]? = some x ∧ x.gone ≠ x.xs.length
theorem ring_Pop (b : Nat) (a l : Int) (B : List Bkt) (k : Int) (ha : 0 ≤ a) (hk : k ≤ 2^60) (hB : B.length = 256) (hg : ∀ x ∈ B, x.xs.length ≤ 2^40 ∧ 0 ≤ x.gone ∧ x.gone ≤ x.xs.length) (hl : 0 < l ∧ l ≤ 2^60) (hf : FirstKey B a k) :
    Spec PP 112 #[ringP b] [ringB b a l B, All (B.map slK)]
      (fun v M => ∃ (x y : Bkt) (it : Int), v = .tuple #[.int .i64 k, .int .i64 it, .bool true] ∧ B[(k % 256).toNat]? = some x ∧ x.q = it :: y.q ∧ y.xs.length ≤ x.xs.length ∧ (0 ≤ y.gone ∧ y.gone ≤ y.xs.length) ∧
        M = [ringB b k (l - 1) (B.set (k % 256).toNat y), All ((B.set (k % 256).toNat y).map slK)]) := by
  obtain ⟨hf1, hf2, x, hx, hxg⟩ := hf
  have hxm := hg x (List.mem_of_getElem? hx)
  refine spec_of (Go.Proofs.Tryz.func112) rfl rfl rfl (by exact fc_enters_112) ?_
  intro g F
  try dsimp only [List.cons_append, List.nil_append]
  refine r_seq ?_
  refine r_reg ?_
  refine ws (st_po (po_assign rfl) rfl rfl rfl ?_)
  refine ws (st_po (po_assign rfl) rfl rfl rfl ?_)
  refine ws (st_po (po_assign rfl) rfl rfl rfl ?_)
  refine s_nil ?_
  refine at_then_wp ?_
  refine r_seq ?_
  refine r_seq ?_
  refine r_reg ?_
  refine ws (st_po (po_move rfl) rfl rfl rfl ?_)
  refine ws (st_call (co_fn rfl rfl) (ring_Len b a l B) (by infer_instance) rfl rfl rfl ?_)
  rintro v6 _ ⟨rfl, rfl⟩
  try dsimp only [List.cons_append, List.nil_append]
  refine ws (st_po (po_eq rfl rfl) rfl rfl rfl ?_)
  refine s_nil ?_
  refine at_then_wp ?_
  first | refine r_dec_f rfl (by omega) ?_ | refine r_nd_f rfl (by omega) ?_ | refine r_cond_f rfl (by omega) ?_
  refine r_skip ?_
  refine at_then_wp ?_
  refine r_seq ?_
  refine r_block ?_
  refine r_loop (S := Int) (fun c => []) [(0, _)] (fun c => [ringB b c l B, All (B.map slK), F]) (fun c => a ≤ c ∧ c ≤ k) (fun c => (k - c).toNat) (a) (And.intro rfl (trivial)) (trivial) (by omega) ent ?_
  rintro c ⟨hc1, hc2⟩
  try dsimp only
  refine r_seq ?_
  refine r_seq ?_
  obtain ⟨z, hz⟩ : ∃ z, B[(c % 256).toNat]? = some z := ⟨_, List.getElem?_eq_getElem (by omega)⟩
  refine wp_ent (ent_take slK B hz) ?_
  refine r_ord [] _ [(0, 1), (1, 1), (2, 1), (3, 1), (4, 0), (5, 1), (6, 1), (7, 1), (8, 1), (9, 2)] fc_mixed (by kernel_rfl) (fun _ h => h) ?_
  refine o_fr rfl (po_move rfl) rfl rfl rfl ?_
  refine o_fr rfl (po_move rfl) rfl rfl rfl ?_
  refine o_fr rfl (po_nil rfl) rfl rfl rfl ?_
  refine o_fr rfl (po_faddr rfl (by exact fc_field_148_0_0)) rfl rfl rfl ?_
  refine o_rd rfl (po_load rfl (by exact fc_flat_3) (by rfl)) (by first | exact fun _ h => h | exact ent) rfl rfl rfl ?_
  refine o_fr rfl (po_rem' rfl rfl (by omega) (by omega)) rfl rfl rfl ?_
  refine o_fr rfl (po_nil rfl) rfl rfl rfl ?_
  refine o_fr rfl (po_faddr rfl (by exact fc_field_148_2_2)) rfl rfl rfl ?_
  refine o_fr rfl (po_iaddr_arr rfl rfl (by exact fc_arr_146_256_145_2) (by first | omega | (simp only [List.length_nil, List.length_cons, List.length_append, List.length_replicate, List.length_set, List.length_map, List.length_take, List.length_drop]; omega)) (by first | omega | (simp only [List.length_nil, List.length_cons, List.length_append, List.length_replicate, List.length_set, List.length_map, List.length_take, List.length_drop]; omega))) rfl rfl rfl ?_
  refine o_st rfl (st_call (co_fn rfl rfl) (bucket_empty b c l B _ z hz) (by infer_instance) rfl rfl rfl ?_)
  rintro v17 _ ⟨rfl, rfl⟩
  try dsimp only [List.cons_append, List.nil_append]
  refine ⟨fun _ => (by first | exact fun _ h => h | exact ent), ?_⟩
  refine o_nil ?_
  refine at_then_wp ?_
  first | refine r_cond_not rfl ?_ ?_ | refine r_cond_dec rfl ?_ ?_ | refine r_cond rfl ?_ ?_
  · intro he
    have hck : c < k := by rcases Int.lt_or_eq_of_le hc2 with e | e; exact e; subst e; rw [hz] at hx; cases hx; exact absurd he hxg
    refine r_skip ?_
    refine at_then_wp ?_
    refine r_block ?_
    refine r_reg ?_
    refine ws (st_po (po_move rfl) rfl rfl rfl ?_)
    refine ws (st_po (po_nil rfl) rfl rfl rfl ?_)
    refine ws (st_po (po_faddr rfl (by exact fc_field_148_0_0)) rfl rfl rfl ?_)
    refine ws (st_po (po_load rfl (by exact fc_flat_3) (by rfl)) rfl rfl rfl ?_)
    refine ws (st_po (po_add' rfl rfl (by omega) (by omega)) rfl rfl rfl ?_)
    refine ws (st_po (po_nil rfl) rfl rfl rfl ?_)
    refine ws (st_po (po_faddr rfl (by exact fc_field_148_0_0)) rfl rfl rfl ?_)
    refine ws (st_so (so_store1 rfl rfl (by exact fc_flat_3) (s := ⟨(rfl : ringL (c + 1) l B = (ringL c l B).set 0 (.int .i64 (c + 1)))⟩) rfl) rfl rfl ?_)
    refine s_nil ?_
    refine at_block_normal ?_
    refine at_ent (ent_put slK B (i := (c % 256).toNat) z (by omega)) ?_
    rw [set_same hz]
    exact at_again (c + 1) (trivial) (And.intro rfl (trivial)) (by omega) (by omega) ent
  · intro he
    refine r_exit ?_
    refine at_then_exit ?_
    refine at_then_exit ?_
    refine at_block_here ?_
    refine at_then_wp ?_
    refine r_seq ?_
    refine wp_ent (ent_put slK B (i := (c % 256).toNat) z (by omega)) ?_
    rw [set_same hz]
    have hck : c = k := by rcases Int.lt_or_eq_of_le hc2 with e | e; exact absurd (hf2 c hc1 e z hz) he; exact e
    subst hck
    refine r_reg ?_
    refine ws (st_po (po_move rfl) rfl rfl rfl ?_)
    refine ws (st_po (po_nil rfl) rfl rfl rfl ?_)
    refine ws (st_po (po_faddr rfl (by exact fc_field_148_1_1)) rfl rfl rfl ?_)
    refine ws (st_po (po_load rfl (by exact fc_flat_3) (by rfl)) rfl rfl rfl ?_)
    refine ws (st_po (po_sub' rfl rfl (by omega) (by omega)) rfl rfl rfl ?_)
    refine ws (st_po (po_nil rfl) rfl rfl rfl ?_)
    refine ws (st_po (po_faddr rfl (by exact fc_field_148_1_1)) rfl rfl rfl ?_)
    refine ws (st_so (so_store1 rfl rfl (by exact fc_flat_3) (s := ⟨(rfl : ringL c (l - 1) B = (ringL c l B).set 1 (.int .i64 (l - 1)))⟩) rfl) rfl rfl ?_)
    refine s_nil ?_
    refine at_then_wp ?_
    refine r_seq ?_
    refine wp_ent (ent_take slK B hx) ?_
    refine r_ord [] [At b 0 (.int .i64 c)] [(0, 1), (1, 1), (2, 1), (3, 0), (4, 1), (5, 1), (6, 1), (7, 1), (8, 0), (9, 1), (10, 1), (11, 1), (12, 1), (13, 2), (14, 1), (15, 1), (16, 1)] fc_mixed (by kernel_rfl) ent ?_
    refine o_fr rfl (po_move rfl) rfl rfl rfl ?_
    refine o_fr rfl (po_nil rfl) rfl rfl rfl ?_
    refine o_fr rfl (po_faddr rfl (by exact fc_field_148_0_0)) rfl rfl rfl ?_
    refine o_rd rfl (po_load_at (v := .int .i64 c) rfl (by exact fc_flat_3)) (by first | exact fun _ h => h | exact ent) rfl rfl rfl ?_
    refine o_fr rfl (po_move rfl) rfl rfl rfl ?_
    refine o_fr rfl (po_move rfl) rfl rfl rfl ?_
    refine o_fr rfl (po_nil rfl) rfl rfl rfl ?_
    refine o_fr rfl (po_faddr rfl (by exact fc_field_148_0_0)) rfl rfl rfl ?_
    refine o_rd rfl (po_load_at (v := .int .i64 c) rfl (by exact fc_flat_3)) (by first | exact fun _ h => h | exact ent) rfl rfl rfl ?_
    refine o_fr rfl (po_rem' rfl rfl (by omega) (by omega)) rfl rfl rfl ?_
    refine o_fr rfl (po_nil rfl) rfl rfl rfl ?_
    refine o_fr rfl (po_faddr rfl (by exact fc_field_148_2_2)) rfl rfl rfl ?_
    refine o_fr rfl (po_iaddr_arr rfl rfl (by exact fc_arr_146_256_145_2) (by first | omega | (simp only [List.length_nil, List.length_cons, List.length_append, List.length_replicate, List.length_set, List.length_map, List.length_take, List.length_drop]; omega)) (by first | omega | (simp only [List.length_nil, List.length_cons, List.length_append, List.length_replicate, List.length_set, List.length_map, List.length_take, List.length_drop]; omega))) rfl rfl rfl ?_
    refine o_st rfl (st_call (co_fn rfl rfl) (bucket_pop b c (l - 1) B _ x hx hxm.1 hxm.2.1 (by omega)) (by infer_instance) rfl rfl rfl ?_)
    rintro v45 _ ⟨y, it, rfl, hq, hyl, hyg, rfl⟩
    try dsimp only [List.cons_append, List.nil_append]
    refine ⟨fun _ => (by first | exact fun _ h => h | exact ent), ?_⟩
    refine o_fr rfl (po_assign rfl) rfl rfl rfl ?_
    refine o_fr rfl (po_assign rfl) rfl rfl rfl ?_
    refine o_fr rfl (po_assign rfl) rfl rfl rfl ?_
    refine o_nil ?_
    refine at_then_wp ?_
    refine r_ret ?_
    refine at_ent (ent_put slK B (i := (c % 256).toNat) y (by omega)) ?_
    refine at_ret3 rfl (rv_tmp rfl) (rv_tmp rfl) (rv_tmp rfl) ⟨_, ⟨x, y, it, rfl, hx, hq, hyl, hyg, rfl⟩, ?_⟩
    try dsimp only [List.cons_append, List.nil_append]
    exact ent

abbrev noB : List Bkt := List.replicate 256 ⟨.slice none 0 0, [], 0⟩
theorem ring_zero (a : Int) : fillL ([.int .i64 0, .int .i64 0] ++ (List.replicate 256 [.slice none 0 0, .int .i64 0]).flatten) [(0, [.int .i64 a])] = ringL a 0 noB := by
  show _ :: _ :: _ = _ :: _ :: _
  congr 2
theorem noB_sat : ∀ {L : List HP} (h : Frag), Sat L h → Sat (All (noB.map slK) :: L) h := by
  have : ∀ (n : Nat) (L : List HP) (h : Frag), Sat L h → Sat (All ((List.replicate n (⟨.slice none 0 0, [], 0⟩ : Bkt)).map slK) :: L) h := by
    intro n
    induction n with
    | zero => intro L h s; exact all_nil.2 s
    | succ n ih => intro L h s; rw [List.replicate_succ, List.map_cons]; exact all_cons.2 ((Has.nilSl eI _).out h (ih L h s))
  intro L h s; exact this 256 L h s
theorem ring_New (a : Int) (h0 : 0 ≤ a) (h1 : a ≤ 1099511627776) : Spec PP 83 #[.int .i64 a] [] (fun v M => ∃ b, v = ringP b ∧ M = [ringB b a 0 noB, All (noB.map slK)]) := by
  refine spec_of (Go.Proofs.Tryz.func83) rfl rfl rfl (by exact fc_enters_83) ?_
  intro g F
  try dsimp only [List.cons_append, List.nil_append]
  refine r_seq ?_
  refine r_reg ?_
  refine ws (st_po (po_assign rfl) rfl rfl rfl ?_)
  refine s_nil ?_
  refine at_then_wp ?_
  refine r_seq ?_
  refine r_seq ?_
  refine r_reg ?_
  refine ws (st_po (po_move rfl) rfl rfl rfl ?_)
  refine ws (st_po (po_lt rfl rfl) rfl rfl rfl ?_)
  refine ws (st_po (po_bf (po_move rfl) (decide_eq_false (by omega))) rfl rfl rfl ?_)
  refine ws (st_po (po_move rfl) rfl rfl rfl ?_)
  refine ws (st_po (po_gt rfl rfl) rfl rfl rfl ?_)
  refine ws (st_po (po_pick_f rfl rfl) rfl rfl rfl ?_)
  refine s_nil ?_
  refine at_then_wp ?_
  first | refine r_dec_f rfl (by omega) ?_ | refine r_nd_f rfl (by omega) ?_ | refine r_cond_f rfl (by omega) ?_
  refine r_skip ?_
  refine at_then_wp ?_
  refine r_seq ?_
  refine r_reg ?_
  refine ws (st_po (po_move rfl) rfl rfl rfl ?_)
  refine ws (st_po (po_build (vs := [(0, .int .i64 a)]) (places := [(0, 0, 1)]) rfl (by exact fc_zero_148) (by exact fc_places_148_0) (by exact fc_info_148) rfl) rfl rfl rfl ?_)
  refine ws (st_xo (xo_box rfl rfl) rfl rfl rfl ?_)
  rintro _ _ ⟨b11, rfl, rfl⟩
  refine ws (st_po (po_assign rfl) rfl rfl rfl ?_)
  refine s_nil ?_
  refine at_then_wp ?_
  refine r_ret ?_
  rw [show laidL [(0, 0, 1)] [(0, Value.int .i64 a)] = [(0, [.int .i64 a])] from rfl, ring_zero]
  refine at_ent noB_sat ?_
  refine at_ret1 rfl (rv_tmp rfl) ⟨_, ⟨_, rfl, rfl⟩, ?_⟩
  try dsimp only [List.cons_append, List.nil_append]
  exact ent
end Hd
end
section
namespace Hd

theorem xy_div {w x y : Int} (h0 : 0 ≤ x) (h1 : x < w) : (y * w + x) / w = y ∧ (y * w + x) % w = x := by
  have hw : w ≠ 0 := by omega
  constructor
  · rw [Int.add_comm, Int.add_mul_ediv_right _ _ hw, Int.ediv_eq_zero_of_lt h0 h1]; omega
  · rw [Int.add_comm, Int.add_mul_emod_self_right, Int.emod_eq_of_lt h0 h1]
theorem mul_lt {a b c d : Int} (h0 : 0 ≤ a) (h1 : a < c) (h2 : 0 ≤ b) (h3 : b < d) : 0 ≤ b * c + a ∧ b * c + a < c * d := by
  have : (b + 1) * c ≤ d * c := Int.mul_le_mul_of_nonneg_right (by omega) (by omega)
  have e1 : (b + 1) * c = b * c + c := by rw [Int.add_mul, Int.one_mul]
  have e2 : d * c = c * d := Int.mul_comm _ _
  have := Int.mul_nonneg h2 (show 0 ≤ c by omega)
  omega
theorem mk_is {w h x y : Int} (m : May w h) (hx : 0 ≤ x ∧ x < w) (hy : 0 ≤ y ∧ y < h) : IsC w h (y * w + x) := ⟨m, mul_lt hx.1 hx.2 hy.1 hy.2⟩
/-- the sector of a cell -/
theorem sector_lt {w h c : Int} (k : IsC w h c) : IsS w h (sectorN w h c) ∧ sectorN w h c % acrN w = c % w / 16 ∧ sectorN w h c / acrN w = c / w / 16 := by
  have hxy := isc_xy k
  have e : sectorN w h c = c / w / 16 * acrN w + c % w / 16 := by rw [sectorN, if_pos k]
  have hx : 0 ≤ c % w / 16 ∧ c % w / 16 < acrN w := by unfold acrN; omega
  have hy : 0 ≤ c / w / 16 ∧ c / w / 16 < acrN h := by unfold acrN; omega
  have hd := xy_div (y := c / w / 16) hx.1 hx.2
  have hl := mul_lt hx.1 hx.2 hy.1 hy.2
  rw [e]
  exact ⟨⟨k.1, hl⟩, hd.2, hd.1⟩
/-- the size of a cell's sector -/
theorem size_of {w h c : Int} (k : IsC w h c) : (sizeN w h (sectorN w h c)).1 = min 16 (w - c % w / 16 * 16) ∧ (sizeN w h (sectorN w h c)).2 = min 16 (h - c / w / 16 * 16) := by
  have hs := sector_lt k
  rw [sizeN, if_pos hs.1, hs.2.1, hs.2.2]
  exact ⟨rfl, rfl⟩
theorem local_lt {w h c : Int} (k : IsC w h c) : 0 ≤ localN w h c ∧ localN w h c < (sizeN w h (sectorN w h c)).1 * (sizeN w h (sectorN w h c)).2 := by
  have hxy := isc_xy k
  have hz := size_of k
  rw [localN, if_pos k]
  refine mul_lt (by omega) ?_ (by omega) ?_
  · rw [hz.1]; omega
  · rw [hz.2]; omega
theorem local_xy {w h c : Int} (k : IsC w h c) : localN w h c % (sizeN w h (sectorN w h c)).1 = c % w % 16 ∧ localN w h c / (sizeN w h (sectorN w h c)).1 = c / w % 16 := by
  have hxy := isc_xy k
  have hz := size_of k
  rw [localN, if_pos k]
  have := xy_div (w := (sizeN w h (sectorN w h c)).1) (x := c % w % 16) (y := c / w % 16) (by omega) (by rw [hz.1]; omega)
  exact ⟨this.2, this.1⟩
theorem global_local {w h c : Int} (k : IsC w h c) : globalN w h (sectorN w h c) (localN w h c) = c := by
  have hs := sector_lt k
  have hl := local_lt k
  have hxy := isc_xy k
  have hlxy := local_xy k
  rw [globalN, if_pos ⟨hs.1, hl⟩, hlxy.1, hlxy.2, hs.2.1, hs.2.2]
  have e1 : c / w / 16 * 16 + c / w % 16 = c / w := by omega
  have e2 : c % w / 16 * 16 + c % w % 16 = c % w := by omega
  rw [e1, e2]; omega
theorem global_is {w h s l : Int} (k : IsS w h s) (h0 : 0 ≤ l) (h1 : l < (sizeN w h s).1 * (sizeN w h s).2) :
    IsC w h (globalN w h s l) ∧ globalN w h s l % w = s % acrN w * 16 + l % (sizeN w h s).1 ∧ globalN w h s l / w = s / acrN w * 16 + l / (sizeN w h s).1 := by
  have hg := global_xy k h0 h1
  rw [globalN, if_pos ⟨k, h0, h1⟩]
  have hd := xy_div (w := w) (x := s % acrN w * 16 + l % (sizeN w h s).1) (y := s / acrN w * 16 + l / (sizeN w h s).1) hg.1.1 hg.1.2
  exact ⟨mk_is k.1 hg.1 hg.2.1, hd.2, hd.1⟩
theorem sector_global {w h s l : Int} (k : IsS w h s) (h0 : 0 ≤ l) (h1 : l < (sizeN w h s).1 * (sizeN w h s).2) : sectorN w h (globalN w h s l) = s := by
  obtain ⟨hc, hx, hy⟩ := global_is k h0 h1
  have hg := global_xy k h0 h1
  have hz := size_le w h s
  have hp := acr_pos k.1
  rw [sectorN, if_pos hc, hx, hy]
  have e1 : (s % acrN w * 16 + l % (sizeN w h s).1) / 16 = s % acrN w := by omega
  have e2 : (s / acrN w * 16 + l / (sizeN w h s).1) / 16 = s / acrN w := by omega
  rw [e1, e2, Int.mul_comm]; exact Int.mul_ediv_add_emod s (acrN w)
theorem local_global {w h s l : Int} (k : IsS w h s) (h0 : 0 ≤ l) (h1 : l < (sizeN w h s).1 * (sizeN w h s).2) : localN w h (globalN w h s l) = l := by
  obtain ⟨hc, hx, hy⟩ := global_is k h0 h1
  have hg := global_xy k h0 h1
  have hz := size_le w h s
  rw [localN, if_pos hc, sector_global k h0 h1, hx, hy]
  have e1 : (s % acrN w * 16 + l % (sizeN w h s).1) % 16 = l % (sizeN w h s).1 := by omega
  have e2 : (s / acrN w * 16 + l / (sizeN w h s).1) % 16 = l / (sizeN w h s).1 := by omega
  rw [e1, e2, Int.mul_comm]; exact Int.mul_ediv_add_emod l _
/-- the neighbour's coordinates -/
def dx (s : Int) : Int := if s = 1 then 1 else if s = 3 then -1 else 0
def dy (s : Int) : Int := if s = 0 then -1 else if s = 2 then 1 else 0
theorem step_eq {w h c s : Int} (k : IsC w h c) (h0 : 0 ≤ s) (h1 : s ≤ 4) : stepN w h c s = cellN w h (c % w + dx s) (c / w + dy s) := by
  rw [stepN, if_pos k]
  have : s = 0 ∨ s = 1 ∨ s = 2 ∨ s = 3 ∨ s = 4 := by omega
  rcases this with h | h | h | h | h <;> subst h <;> simp [dx, dy]
  · congr 1
  · congr 1
theorem step_none {w h c s : Int} (k : ¬ (IsC w h c ∧ 0 ≤ s ∧ s ≤ 4)) : stepN w h c s = -1 := by
  unfold stepN
  split
  · rename_i kc
    rw [if_neg (by omega), if_neg (by omega), if_neg (by omega), if_neg (by omega), if_neg (by omega)]
  · rfl
theorem cell_is {w h x y : Int} (k : 0 ≤ cellN w h x y) : (May w h ∧ (0 ≤ x ∧ x < w) ∧ (0 ≤ y ∧ y < h)) ∧ IsC w h (cellN w h x y) ∧ cellN w h x y % w = x ∧ cellN w h x y / w = y := by
  unfold cellN at *
  split at k
  · rename_i hc
    rw [if_pos hc]
    have := xy_div (w := w) (x := x) (y := y) hc.2.1.1 hc.2.1.2
    exact ⟨hc, mk_is hc.1 hc.2.1 hc.2.2, this.2, this.1⟩
  · omega
end Hd
end
section
namespace Hd
abbrev INF : Int := 1099511627776
/-- a number of a list, at a place that is one -/
def gAt (c : List Int) (i : Int) : Int := c.getD i.toNat 0
theorem gAt_get {c : List Int} {i : Int} (h : i.toNat < c.length) : gAt c i = c[i.toNat] := by simp [gAt, h]
theorem gAt_nat {c : List Int} {i : Nat} (h : i < c.length) : gAt c (i : Int) = c[i] := by simp [gAt, h]
theorem gAt_set {c : List Int} {i j : Int} {v : Int} (hi : 0 ≤ i) (hil : i < c.length) (hj : 0 ≤ j) : gAt (c.set i.toNat v) j = if j = i then v else gAt c j := by
  unfold gAt
  rw [List.getD_eq_getElem?_getD, List.getD_eq_getElem?_getD, List.getElem?_set]
  by_cases e : j = i
  · subst e; rw [if_pos rfl, if_pos rfl, if_pos (by omega)]; rfl
  · rw [if_neg (by omega), if_neg e]
/-- an open cell -/
def Opn (C : List Int) (c : Int) : Prop := 0 ≤ c ∧ c < C.length ∧ gAt C c ≠ 255
instance (C : List Int) (c : Int) : Decidable (Opn C c) := by unfold Opn; infer_instance
/-- m is an open cell beside c -/
def Nb (w h : Int) (C : List Int) (c m : Int) : Prop := Opn C m ∧ ∃ s : Int, (0 ≤ s ∧ s < 4) ∧ stepN w h c s = m

/-- d tells of each cell how far it is, by sources and by its neighbours -/
structure IsDist (w h : Int) (C : List Int) (src : Int → Int → Prop) (d : Int → Int) : Prop where
  wall : ∀ c, ¬ Opn C c → d c = INF
  rng : ∀ c, d c = INF ∨ (0 ≤ d c ∧ d c < INF)
  low : ∀ c k, src c k → d c ≤ k
  rel : ∀ c m, Opn C c → Nb w h C c m → d m < INF → d c ≤ d m + gAt C m
  tight : ∀ c, d c = INF ∨ src c (d c) ∨ ∃ m, Nb w h C c m ∧ d m < INF ∧ d c = d m + gAt C m

theorem isDist_le {w h : Int} {C : List Int} {src : Int → Int → Prop} {d d' : Int → Int} (hC : ∀ x ∈ C, 1 ≤ x) (h1 : IsDist w h C src d) (h2 : IsDist w h C src d') : ∀ (n : Nat) (c : Int), d c < INF → d c ≤ n → d' c ≤ d c := by
  intro n
  induction n with
  | zero =>
    intro c hlt hle
    rcases h1.tight c with e | e | ⟨m, hm, hml, e⟩
    · omega
    · exact h2.low c _ e
    · have := h1.rng m
      have hc : 1 ≤ gAt C m := by
        have hl : m.toNat < C.length := by have := hm.1; unfold Opn at this; omega
        rw [gAt_get hl]; exact hC _ (List.getElem_mem hl)
      omega
  | succ n ih =>
    intro c hlt hle
    rcases h1.tight c with e | e | ⟨m, hm, hml, e⟩
    · omega
    · exact h2.low c _ e
    · have hc : 1 ≤ gAt C m := by
        have hl : m.toNat < C.length := by have := hm.1; unfold Opn at this; omega
        rw [gAt_get hl]; exact hC _ (List.getElem_mem hl)
      have := ih m hml (by omega)
      have ho : Opn C c := by
        apply Classical.byContradiction
        intro hn
        have := h1.wall c hn
        omega
      have := h2.rel c m ho hm (by omega)
      omega
theorem isDist_uniq {w h : Int} {C : List Int} {src : Int → Int → Prop} {d d' : Int → Int} (hC : ∀ x ∈ C, 1 ≤ x) (h1 : IsDist w h C src d) (h2 : IsDist w h C src d') : ∀ c, d c = d' c := by
  intro c
  rcases h1.rng c with e | e
  · rcases h2.rng c with f | f
    · omega
    · have := isDist_le hC h2 h1 (d' c).toNat c (by omega) (by omega); omega
  · have a := isDist_le hC h1 h2 (d c).toNat c (by omega) (by omega)
    have b := isDist_le hC h2 h1 (d' c).toNat c (by omega) (by omega)
    omega
/-- the same sources -/
theorem IsDist.congr {w h : Int} {C : List Int} {src src' : Int → Int → Prop} {d : Int → Int} (h1 : IsDist w h C src d) (e : ∀ c k, src c k ↔ src' c k) : IsDist w h C src' d :=
  ⟨h1.wall, h1.rng, fun c k s => h1.low c k ((e c k).2 s), h1.rel, fun c => by
    rcases h1.tight c with a | a | a
    · exact .inl a
    · exact .inr (.inl ((e c _).1 a))
    · exact .inr (.inr a)⟩
end Hd
end
section
namespace Hd
structure Tile where
  w : Int
  h : Int
  c : List Int
deriving Inhabited
def Sized (n : Int) : Prop := 1 ≤ n ∧ n ≤ 16
instance (n : Int) : Decidable (Sized n) := by unfold Sized; infer_instance
/-- 2.1 -/
def MayT (t : Tile) : Prop := Sized t.w ∧ Sized t.h ∧ (t.c.length : Int) = t.w * t.h ∧ (0 : Int) ∉ t.c
instance (t : Tile) : Decidable (MayT t) := by unfold MayT; infer_instance
/-- a side that leads over the edge, or nowhere -/
def OutS (w h cell side : Int) : Prop := if side = 0 then cell / w = 0 else if side = 1 then cell % w = w - 1 else if side = 2 then cell / w = h - 1 else if side = 3 then cell % w = 0 else side = 4
instance (w h c s : Int) : Decidable (OutS w h c s) := by unfold OutS; infer_instance
/-- the byte at a place -/
abbrev cAt (c : List Int) (i : Int) : Int := gAt c i
theorem cAt_get {c : List Int} {i : Int} (h : i.toNat < c.length) : cAt c i = c[i.toNat] := gAt_get h
/-- 8.1, of one seed -/
def MaySd (t : Tile) (s : Seed) : Prop := 0 ≤ s.cell ∧ s.cell < t.c.length ∧ cAt t.c s.cell ≠ 255 ∧ 0 ≤ s.key ∧ s.key ≤ 1073741824 ∧ OutS t.w t.h s.cell s.side
instance (t : Tile) (s : Seed) : Decidable (MaySd t s) := by unfold MaySd; infer_instance
def MayS (t : Tile) (l : List Seed) : Prop := MayT t ∧ ∀ s ∈ l, MaySd t s
instance (t : Tile) (l : List Seed) : Decidable (MayS t l) := by unfold MayS; infer_instance
/-- all are bytes -/
def Bytes (c : List Int) : Prop := ∀ x ∈ c, 0 ≤ x ∧ x ≤ 255
theorem Bytes.get {c : List Int} (h : Bytes c) {i : Nat} (hi : i < c.length) : 0 ≤ c[i] ∧ c[i] ≤ 255 := h _ (List.getElem_mem hi)
end Hd
end
section
namespace Hd
set_option maxRecDepth 100000
open Go

theorem slices_isNaN (x : Int) : Spec PP 161 #[.int .i64 x] [] (fun v M => v = .bool false ∧ M = []) := by
  refine spec_of (Go.Proofs.Tryz.func161) rfl rfl rfl (by exact fc_enters_161) ?_
  intro g F
  try dsimp only [List.cons_append, List.nil_append]
  refine r_seq ?_
  refine r_reg ?_
  refine ws (st_po (po_assign rfl) rfl rfl rfl ?_)
  refine s_nil ?_
  refine at_then_wp ?_
  refine r_seq ?_
  refine r_reg ?_
  refine ws (st_po (po_move rfl) rfl rfl rfl ?_)
  refine ws (st_po (po_move rfl) rfl rfl rfl ?_)
  refine ws (st_po (po_ne rfl rfl) rfl rfl rfl ?_)
  refine ws (st_po (po_assign rfl) rfl rfl rfl ?_)
  refine s_nil ?_
  refine at_then_wp ?_
  refine r_ret ?_
  refine at_ret1 rfl (rv_tmp rfl) ⟨_, ⟨by simp, rfl⟩, ?_⟩
  try dsimp only [List.cons_append, List.nil_append]
  exact ent

/-- strictly rising -/
def Rising (xs : List Int) : Prop := ∀ i j, (hi : i < xs.length) → (hj : j < xs.length) → i < j → xs[i] < xs[j]

theorem rise_lt {xs : List Int} {k m : Nat} {y : Int} (hr : Rising xs) {hm' : m < xs.length} (hy : xs[m] < y) (hk : k < xs.length) (hm : m < xs.length) (h : k ≤ m) : xs[k] < y := by
  rcases Nat.lt_or_eq_of_le h with h | h
  · exact Int.lt_trans (hr k m hk hm h) hy
  · subst h; exact hy
theorem rise_ge {xs : List Int} {k m : Nat} {y : Int} (hr : Rising xs) {hm' : m < xs.length} (hy : y ≤ xs[m]) (hk : k < xs.length) (hm : m < xs.length) (h : m ≤ k) : y ≤ xs[k] := by
  rcases Nat.lt_or_eq_of_le h with h | h
  · exact Int.le_of_lt (Int.lt_of_le_of_lt hy (hr m k hm hk h))
  · subst h; exact hy
theorem search_no {xs : List Int} {i : Nat} {y : Int} (hlo : ∀ k, (h : k < xs.length) → k < i → xs[k] < y) (hhi : ∀ k, (h : k < xs.length) → i ≤ k → y ≤ xs[k]) {hi : i < xs.length} (heq : ¬ xs[i] = y) (hr : Rising xs) : ¬ y ∈ xs := by
  intro h
  obtain ⟨k, hk, e⟩ := List.getElem_of_mem h
  rcases Nat.lt_trichotomy k i with h | h | h
  · have := hlo k hk h; omega
  · subst h; exact heq e
  · have := hr i k hi hk h; have := hhi i hi (Nat.le_refl _); omega
theorem search_no' {xs : List Int} {i : Nat} {y : Int} (hlo : ∀ k, (h : k < xs.length) → k < i → xs[k] < y) (h : xs.length ≤ i) : ¬ y ∈ xs := by
  intro h
  obtain ⟨k, hk, e⟩ := List.getElem_of_mem h
  have := hlo k hk (by omega); omega

theorem bin_search (s : Value) (xs : List Int) (y : Int) (hl : xs.length ≤ 2^30) (hr : Rising xs) : Spec PP 157 #[s, .int .i64 y] [Sl eI s xs]
    (fun v M => (∃ (r : Nat), v = .tuple #[.int .i64 r, .bool (decide (y ∈ xs))] ∧ (y ∈ xs → xs[r]? = some y)) ∧ M = [Sl eI s xs]) := by
  refine spec_of (Go.Proofs.Tryz.func157) rfl rfl rfl (by exact fc_enters_157) ?_
  intro g F
  try dsimp only [List.cons_append, List.nil_append]
  refine r_seq ?_
  refine r_reg ?_
  refine ws (st_po (po_assign rfl) rfl rfl rfl ?_)
  refine ws (st_po (po_assign rfl) rfl rfl rfl ?_)
  refine s_nil ?_
  refine at_then_wp ?_
  refine r_seq ?_
  refine r_reg ?_
  refine ws (st_po (po_move rfl) rfl rfl rfl ?_)
  refine ws (st_po (po_len rfl (by exact fc_slice_35_3_1)) rfl rfl rfl ?_)
  refine ws (st_po (po_assign rfl) rfl rfl rfl ?_)
  refine s_nil ?_
  refine at_then_wp ?_
  refine r_seq ?_
  refine r_reg ?_
  refine ws (st_po (po_move rfl) rfl rfl rfl ?_)
  refine ws (st_po (po_assign rfl) rfl rfl rfl ?_)
  refine ws (st_po (po_assign rfl) rfl rfl rfl ?_)
  refine s_nil ?_
  refine at_then_wp ?_
  refine r_seq ?_
  refine r_block ?_
  refine r_loop (S := Nat × Nat) (fun ⟨i, j⟩ => [(7, .int .i64 i), (8, .int .i64 j)]) [(0, _), (1, _), (6, _)] (fun ⟨i, j⟩ => [Sl eI s xs, F]) (fun ⟨i, j⟩ => i ≤ j ∧ j ≤ xs.length ∧ (∀ k, (h : k < xs.length) → k < i → xs[k] < y) ∧ (∀ k, (h : k < xs.length) → j ≤ k → y ≤ xs[k])) (fun ⟨i, j⟩ => j - i) ((0, xs.length)) (And.intro rfl (And.intro rfl (And.intro rfl (trivial)))) (And.intro rfl (And.intro rfl (trivial))) (⟨by omega, by omega, fun k _ h => by omega, fun k _ h => by omega⟩) ent ?_
  rintro ⟨i, j⟩ ⟨hij, hj, hlo, hhi⟩
  try dsimp only
  refine r_seq ?_
  refine r_seq ?_
  refine r_reg ?_
  refine ws (st_po (po_move rfl) rfl rfl rfl ?_)
  refine ws (st_po (po_move rfl) rfl rfl rfl ?_)
  refine ws (st_po (po_lt rfl rfl) rfl rfl rfl ?_)
  refine s_nil ?_
  refine at_then_wp ?_
  first | refine r_cond_not rfl ?_ ?_ | refine r_cond_dec rfl ?_ ?_ | refine r_cond rfl ?_ ?_
  · intro hlt
    refine r_skip ?_
    refine at_then_wp ?_
    refine r_block ?_
    refine r_seq ?_
    refine r_reg ?_
    refine ws (st_po (po_move rfl) rfl rfl rfl ?_)
    refine ws (st_po (po_move rfl) rfl rfl rfl ?_)
    refine ws (st_po (po_add' rfl rfl (by omega) (by omega)) rfl rfl rfl ?_)
    refine ws (st_po (po_conv_w rfl (by exact fc_int_3_i64) (by exact fc_int_139_u64) (wrap_u64 _ (by omega) (by omega))) rfl rfl rfl ?_)
    refine ws (st_po (po_shr (m := 1) rfl rfl (by decide)) rfl rfl rfl ?_)
    refine ws (st_po (po_conv_w rfl (by exact fc_int_139_u64) (by exact fc_int_3_i64) (wrap_i64 _ (by omega) (by omega))) rfl rfl rfl ?_)
    refine ws (st_po (po_assign rfl) rfl rfl rfl ?_)
    refine s_nil ?_
    refine at_then_wp ?_
    refine r_seq ?_
    have hm : ((i : Int) + j) / 2 ^ 1 = ((i + j) / 2 : Nat) := by omega
    have hlen : (i + j) / 2 < xs.length := by omega
    rw [hm]
    refine r_reg ?_
    refine ws (st_po (po_move rfl) rfl rfl rfl ?_)
    refine ws (st_po (po_move rfl) rfl rfl rfl ?_)
    refine ws (st_po (po_iaddr rfl rfl (by exact fc_slice_35_3_1) (by first | omega | (simp only [List.length_nil, List.length_cons, List.length_append, List.length_replicate, List.length_set, List.length_map, List.length_take, List.length_drop]; omega)) (by first | omega | (simp only [List.length_nil, List.length_cons, List.length_append, List.length_replicate, List.length_set, List.length_map, List.length_take, List.length_drop]; omega))) rfl rfl rfl ?_)
    refine ws (st_po (po_load_sl rfl (List.getElem?_eq_getElem (by omega)) (by exact fc_flat_3) (by rfl)) rfl rfl rfl ?_)
    refine ws (st_po (po_move rfl) rfl rfl rfl ?_)
    refine ws (st_call (co_fn rfl rfl) (cmp_Less _ y) (by infer_instance) rfl rfl rfl ?_)
    rintro _ _ ⟨rfl, rfl⟩
    try dsimp only [List.cons_append, List.nil_append]
    refine s_nil ?_
    refine at_then_wp ?_
    first | refine r_cond_not rfl ?_ ?_ | refine r_cond_dec rfl ?_ ?_ | refine r_cond rfl ?_ ?_
    · intro hy
      refine r_reg ?_
      refine ws (st_po (po_move rfl) rfl rfl rfl ?_)
      refine ws (st_po (po_add' rfl rfl (by omega) (by omega)) rfl rfl rfl ?_)
      refine ws (st_po (po_assign rfl) rfl rfl rfl ?_)
      refine s_nil ?_
      refine at_block_normal ?_
      simp only [Int.toNat_natCast] at hy
      exact at_again (((i + j) / 2 + 1, j)) (And.intro rfl (And.intro rfl (trivial))) (And.intro rfl (And.intro rfl (And.intro rfl (trivial)))) (⟨by omega, by omega, fun k hk h => rise_lt hr hy hk hlen (by omega), hhi⟩) (by omega) ent
    · intro hy
      refine r_reg ?_
      refine ws (st_po (po_move rfl) rfl rfl rfl ?_)
      refine ws (st_po (po_assign rfl) rfl rfl rfl ?_)
      refine s_nil ?_
      refine at_block_normal ?_
      simp only [Int.toNat_natCast] at hy
      exact at_again ((i, (i + j) / 2)) (And.intro rfl (And.intro rfl (trivial))) (And.intro rfl (And.intro rfl (And.intro rfl (trivial)))) (⟨by omega, by omega, hlo, fun k hk h => rise_ge hr (by omega) hk hlen (by omega)⟩) (by omega) ent
  · intro hlt
    refine r_exit ?_
    refine at_then_exit ?_
    refine at_then_exit ?_
    refine at_block_here ?_
    refine at_then_wp ?_
    refine r_seq ?_
    refine r_reg ?_
    refine ws (st_po (po_move rfl) rfl rfl rfl ?_)
    refine ws (st_po (po_move rfl) rfl rfl rfl ?_)
    refine ws (st_po (po_move rfl) rfl rfl rfl ?_)
    refine ws (st_po (po_lt rfl rfl) rfl rfl rfl ?_)
    by_cases hin : (i : Int) < xs.length
    · skip
      refine ws (st_po (po_bt (po_move rfl) (decide_eq_true hin)) rfl rfl rfl ?_)
      refine ws (st_po (po_move rfl) rfl rfl rfl ?_)
      refine ws (st_po (po_move rfl) rfl rfl rfl ?_)
      refine ws (st_po (po_iaddr rfl rfl (by exact fc_slice_35_3_1) (by first | omega | (simp only [List.length_nil, List.length_cons, List.length_append, List.length_replicate, List.length_set, List.length_map, List.length_take, List.length_drop]; omega)) (by first | omega | (simp only [List.length_nil, List.length_cons, List.length_append, List.length_replicate, List.length_set, List.length_map, List.length_take, List.length_drop]; omega))) rfl rfl rfl ?_)
      refine ws (st_po (po_load_sl rfl (List.getElem?_eq_getElem (by omega)) (by exact fc_flat_3) (by rfl)) rfl rfl rfl ?_)
      refine ws (st_po (po_move rfl) rfl rfl rfl ?_)
      refine ws (st_po (po_eq rfl rfl) rfl rfl rfl ?_)
      by_cases heq : xs[i]'(by omega) = y
      · skip
        refine ws (st_po (po_bt (po_move rfl) (decide_eq_true heq)) rfl rfl rfl ?_)
        refine ws (st_no rfl rfl rfl ?_)
        refine ws (st_no rfl rfl rfl ?_)
        refine ws (st_no rfl rfl rfl ?_)
        refine ws (st_no rfl rfl rfl ?_)
        refine ws (st_no rfl rfl rfl ?_)
        refine ws (st_no rfl rfl rfl ?_)
        refine ws (st_no rfl rfl rfl ?_)
        refine ws (st_no rfl rfl rfl ?_)
        refine ws (st_no rfl rfl rfl ?_)
        refine ws (st_po (po_pick_t rfl rfl) rfl rfl rfl ?_)
        refine ws (st_po (po_pick_t rfl rfl) rfl rfl rfl ?_)
        refine ws (st_po (po_assign rfl) rfl rfl rfl ?_)
        refine ws (st_po (po_assign rfl) rfl rfl rfl ?_)
        refine s_nil ?_
        refine at_then_wp ?_
        refine r_ret ?_
        refine at_ret2 rfl (rv_tmp rfl) (rv_tmp rfl) ⟨_, ⟨⟨i, by rw [decide_eq_true (by rw [← heq]; exact List.getElem_mem _)], fun _ => by rw [← heq]; exact List.getElem?_eq_getElem (by omega)⟩, rfl⟩, ?_⟩
        try dsimp only [List.cons_append, List.nil_append]
        exact ent
      · skip
        refine ws (st_po (po_bf (po_move rfl) (decide_eq_false heq)) rfl rfl rfl ?_)
        refine ws (st_po (po_move rfl) rfl rfl rfl ?_)
        refine ws (st_po (po_move rfl) rfl rfl rfl ?_)
        refine ws (st_po (po_iaddr rfl rfl (by exact fc_slice_35_3_1) (by first | omega | (simp only [List.length_nil, List.length_cons, List.length_append, List.length_replicate, List.length_set, List.length_map, List.length_take, List.length_drop]; omega)) (by first | omega | (simp only [List.length_nil, List.length_cons, List.length_append, List.length_replicate, List.length_set, List.length_map, List.length_take, List.length_drop]; omega))) rfl rfl rfl ?_)
        refine ws (st_po (po_load_sl rfl (List.getElem?_eq_getElem (by omega)) (by exact fc_flat_3) (by rfl)) rfl rfl rfl ?_)
        refine ws (st_call (co_fn rfl rfl) (slices_isNaN _) (by infer_instance) rfl rfl rfl ?_)
        rintro _ _ ⟨rfl, rfl⟩
        try dsimp only [List.cons_append, List.nil_append]
        refine ws (st_po (po_bf (po_move rfl) (rfl)) rfl rfl rfl ?_)
        refine ws (st_no rfl rfl rfl ?_)
        refine ws (st_no rfl rfl rfl ?_)
        refine ws (st_po (po_pick_f rfl rfl) rfl rfl rfl ?_)
        refine ws (st_po (po_pick_f rfl rfl) rfl rfl rfl ?_)
        refine ws (st_po (po_pick_t rfl rfl) rfl rfl rfl ?_)
        refine ws (st_po (po_assign rfl) rfl rfl rfl ?_)
        refine ws (st_po (po_assign rfl) rfl rfl rfl ?_)
        refine s_nil ?_
        refine at_then_wp ?_
        refine r_ret ?_
        refine at_ret2 rfl (rv_tmp rfl) (rv_tmp rfl) ⟨_, ⟨⟨i, by rw [decide_eq_false (search_no hlo (fun k hk h => hhi k hk (by omega)) heq hr)], fun h => absurd h (search_no hlo (fun k hk h => hhi k hk (by omega)) heq hr)⟩, rfl⟩, ?_⟩
        try dsimp only [List.cons_append, List.nil_append]
        exact ent
    · skip
      refine ws (st_po (po_bf (po_move rfl) (decide_eq_false hin)) rfl rfl rfl ?_)
      refine ws (st_no rfl rfl rfl ?_)
      refine ws (st_no rfl rfl rfl ?_)
      refine ws (st_no rfl rfl rfl ?_)
      refine ws (st_no rfl rfl rfl ?_)
      refine ws (st_no rfl rfl rfl ?_)
      refine ws (st_no rfl rfl rfl ?_)
      refine ws (st_no rfl rfl rfl ?_)
      refine ws (st_no rfl rfl rfl ?_)
      refine ws (st_no rfl rfl rfl ?_)
      refine ws (st_no rfl rfl rfl ?_)
      refine ws (st_no rfl rfl rfl ?_)
      refine ws (st_no rfl rfl rfl ?_)
      refine ws (st_no rfl rfl rfl ?_)
      refine ws (st_no rfl rfl rfl ?_)
      refine ws (st_no rfl rfl rfl ?_)
      refine ws (st_no rfl rfl rfl ?_)
      refine ws (st_no rfl rfl rfl ?_)
      refine ws (st_po (po_pick_f rfl rfl) rfl rfl rfl ?_)
      refine ws (st_po (po_assign rfl) rfl rfl rfl ?_)
      refine ws (st_po (po_assign rfl) rfl rfl rfl ?_)
      refine s_nil ?_
      refine at_then_wp ?_
      refine r_ret ?_
      refine at_ret2 rfl (rv_tmp rfl) (rv_tmp rfl) ⟨_, ⟨⟨i, by rw [decide_eq_false (search_no' hlo (by omega))], fun h => absurd h (search_no' hlo (by omega))⟩, rfl⟩, ?_⟩
      try dsimp only [List.cons_append, List.nil_append]
      exact ent
end Hd
end
section
namespace Hd
set_option maxRecDepth 100000
open Go
abbrev tileV (tc : Value) (t : Tile) : Value := .agg #[.int .i64 t.w, .int .i64 t.h, tc]

theorem tile_sized (n : Int) : Spec PP 135 #[.int .i64 n] [] (fun v M => v = .bool (decide (Sized n)) ∧ M = []) := by
  refine spec_of (Go.Proofs.Tryz.func135) rfl rfl rfl (by exact fc_enters_135) ?_
  intro g F
  try dsimp only [List.cons_append, List.nil_append]
  refine r_seq ?_
  refine r_reg ?_
  refine ws (st_po (po_assign rfl) rfl rfl rfl ?_)
  refine s_nil ?_
  refine at_then_wp ?_
  refine r_seq ?_
  refine r_reg ?_
  refine ws (st_po (po_move rfl) rfl rfl rfl ?_)
  refine ws (st_po (po_ge rfl rfl) rfl rfl rfl ?_)
  by_cases h1 : 1 ≤ n
  · skip
    refine ws (st_po (po_bt (po_move rfl) (decide_eq_true h1)) rfl rfl rfl ?_)
    refine ws (st_po (po_move rfl) rfl rfl rfl ?_)
    refine ws (st_po (po_le rfl rfl) rfl rfl rfl ?_)
    refine ws (st_po (po_pick_t rfl rfl) rfl rfl rfl ?_)
    refine ws (st_po (po_assign rfl) rfl rfl rfl ?_)
    refine s_nil ?_
    refine at_then_wp ?_
    refine r_ret ?_
    refine at_ret1 rfl (rv_tmp rfl) ⟨_, ⟨by simp [Sized, h1], rfl⟩, ?_⟩
    try dsimp only [List.cons_append, List.nil_append]
    exact ent
  · skip
    refine ws (st_po (po_bf (po_move rfl) (decide_eq_false h1)) rfl rfl rfl ?_)
    refine ws (st_no rfl rfl rfl ?_)
    refine ws (st_no rfl rfl rfl ?_)
    refine ws (st_po (po_pick_f rfl rfl) rfl rfl rfl ?_)
    refine ws (st_po (po_assign rfl) rfl rfl rfl ?_)
    refine s_nil ?_
    refine at_then_wp ?_
    refine r_ret ?_
    refine at_ret1 rfl (rv_tmp rfl) ⟨_, ⟨by simp [Sized, h1], rfl⟩, ?_⟩
    try dsimp only [List.cons_append, List.nil_append]
    exact ent

theorem tile_May (tc : Value) (t : Tile) (hl : t.c.length ≤ 2^30) : Spec PP 105 #[tileV tc t] [Sl eB tc t.c] (fun v M => v = .bool (decide (MayT t)) ∧ M = [Sl eB tc t.c]) := by
  refine spec_of (Go.Proofs.Tryz.func105) rfl rfl rfl (by exact fc_enters_105) ?_
  intro g F
  try dsimp only [List.cons_append, List.nil_append]
  refine r_seq ?_
  refine r_reg ?_
  refine ws (st_xo (xo_box rfl rfl) rfl rfl rfl ?_)
  rintro _ _ ⟨b1, rfl, rfl⟩
  refine ws (st_po (po_assign rfl) rfl rfl rfl ?_)
  refine s_nil ?_
  refine at_then_wp ?_
  refine r_seq ?_
  refine r_reg ?_
  refine ws (st_po (po_faddr rfl (by exact fc_field_41_0_0)) rfl rfl rfl ?_)
  refine ws (st_po (po_load rfl (by exact fc_flat_3) (by rfl)) rfl rfl rfl ?_)
  refine ws (st_call (co_fn rfl rfl) (tile_sized t.w) (by infer_instance) rfl rfl rfl ?_)
  rintro _ _ ⟨rfl, rfl⟩
  try dsimp only [List.cons_append, List.nil_append]
  by_cases h1 : Sized t.w
  · skip
    refine ws (st_po (po_bt (po_move rfl) (decide_eq_true h1)) rfl rfl rfl ?_)
    refine ws (st_po (po_faddr rfl (by exact fc_field_41_1_1)) rfl rfl rfl ?_)
    refine ws (st_po (po_load rfl (by exact fc_flat_3) (by rfl)) rfl rfl rfl ?_)
    refine ws (st_call (co_fn rfl rfl) (tile_sized t.h) (by infer_instance) rfl rfl rfl ?_)
    rintro _ _ ⟨rfl, rfl⟩
    try dsimp only [List.cons_append, List.nil_append]
    refine ws (st_po (po_pick_t rfl rfl) rfl rfl rfl ?_)
    by_cases h2 : Sized t.h
    · skip
      refine ws (st_po (po_bt (po_move rfl) (decide_eq_true h2)) rfl rfl rfl ?_)
      have hb := mul_1k (a := t.w) (b := t.h) (by have := h1.1; omega) (by have := h1.2; omega) (by have := h2.1; omega) (by have := h2.2; omega)
      refine ws (st_po (po_faddr rfl (by exact fc_field_41_2_2)) rfl rfl rfl ?_)
      refine ws (st_po (po_load rfl (by exact fc_flat_22) (by rfl)) rfl rfl rfl ?_)
      refine ws (st_po (po_len rfl (by exact fc_slice_22_5_1)) rfl rfl rfl ?_)
      refine ws (st_po (po_faddr rfl (by exact fc_field_41_0_0)) rfl rfl rfl ?_)
      refine ws (st_po (po_load rfl (by exact fc_flat_3) (by rfl)) rfl rfl rfl ?_)
      refine ws (st_po (po_faddr rfl (by exact fc_field_41_1_1)) rfl rfl rfl ?_)
      refine ws (st_po (po_load rfl (by exact fc_flat_3) (by rfl)) rfl rfl rfl ?_)
      refine ws (st_po (po_mul' rfl rfl (by omega) (by omega)) rfl rfl rfl ?_)
      refine ws (st_po (po_eq rfl rfl) rfl rfl rfl ?_)
      refine ws (st_po (po_pick_t rfl rfl) rfl rfl rfl ?_)
      by_cases h3 : (t.c.length : Int) = t.w * t.h
      · skip
        refine ws (st_po (po_bt (po_move rfl) (decide_eq_true h3)) rfl rfl rfl ?_)
        refine ws (st_po (po_faddr rfl (by exact fc_field_41_2_2)) rfl rfl rfl ?_)
        refine ws (st_po (po_load rfl (by exact fc_flat_22) (by rfl)) rfl rfl rfl ?_)
        refine ws (st_call (co_fn rfl rfl) (contains_B tc t.c 0 hl) (by infer_instance) rfl rfl rfl ?_)
        rintro _ _ ⟨rfl, rfl⟩
        try dsimp only [List.cons_append, List.nil_append]
        refine ws (st_po (po_not rfl) rfl rfl rfl ?_)
        refine ws (st_po (po_pick_t rfl rfl) rfl rfl rfl ?_)
        refine ws (st_po (po_assign rfl) rfl rfl rfl ?_)
        refine s_nil ?_
        refine at_then_wp ?_
        refine r_ret ?_
        refine at_ret1 rfl (rv_tmp rfl) ⟨_, ⟨by simp [MayT, h1, h2, h3], rfl⟩, ?_⟩
        try dsimp only [List.cons_append, List.nil_append]
        exact ent
      · skip
        refine ws (st_po (po_bf (po_move rfl) (decide_eq_false h3)) rfl rfl rfl ?_)
        refine ws (st_no rfl rfl rfl ?_)
        refine ws (st_no rfl rfl rfl ?_)
        refine ws (st_no rfl rfl rfl ?_)
        refine ws (st_no rfl rfl rfl ?_)
        refine ws (st_po (po_pick_f rfl rfl) rfl rfl rfl ?_)
        refine ws (st_po (po_assign rfl) rfl rfl rfl ?_)
        refine s_nil ?_
        refine at_then_wp ?_
        refine r_ret ?_
        refine at_ret1 rfl (rv_tmp rfl) ⟨_, ⟨by simp [MayT, h1, h2, h3], rfl⟩, ?_⟩
        try dsimp only [List.cons_append, List.nil_append]
        exact ent
    · skip
      refine ws (st_po (po_bf (po_move rfl) (decide_eq_false h2)) rfl rfl rfl ?_)
      refine ws (st_no rfl rfl rfl ?_)
      refine ws (st_no rfl rfl rfl ?_)
      refine ws (st_no rfl rfl rfl ?_)
      refine ws (st_no rfl rfl rfl ?_)
      refine ws (st_no rfl rfl rfl ?_)
      refine ws (st_no rfl rfl rfl ?_)
      refine ws (st_no rfl rfl rfl ?_)
      refine ws (st_no rfl rfl rfl ?_)
      refine ws (st_no rfl rfl rfl ?_)
      refine ws (st_po (po_pick_f rfl rfl) rfl rfl rfl ?_)
      refine ws (st_po (po_move rfl) rfl rfl rfl ?_)
      refine ws (st_no rfl rfl rfl ?_)
      refine ws (st_no rfl rfl rfl ?_)
      refine ws (st_no rfl rfl rfl ?_)
      refine ws (st_no rfl rfl rfl ?_)
      refine ws (st_po (po_pick_f rfl rfl) rfl rfl rfl ?_)
      refine ws (st_po (po_assign rfl) rfl rfl rfl ?_)
      refine s_nil ?_
      refine at_then_wp ?_
      refine r_ret ?_
      refine at_ret1 rfl (rv_tmp rfl) ⟨_, ⟨by simp [MayT, h1, h2], rfl⟩, ?_⟩
      try dsimp only [List.cons_append, List.nil_append]
      exact ent
  · skip
    refine ws (st_po (po_bf (po_move rfl) (decide_eq_false h1)) rfl rfl rfl ?_)
    refine ws (st_no rfl rfl rfl ?_)
    refine ws (st_no rfl rfl rfl ?_)
    refine ws (st_no rfl rfl rfl ?_)
    refine ws (st_po (po_pick_f rfl rfl) rfl rfl rfl ?_)
    refine ws (st_po (po_move rfl) rfl rfl rfl ?_)
    refine ws (st_no rfl rfl rfl ?_)
    refine ws (st_no rfl rfl rfl ?_)
    refine ws (st_no rfl rfl rfl ?_)
    refine ws (st_no rfl rfl rfl ?_)
    refine ws (st_no rfl rfl rfl ?_)
    refine ws (st_no rfl rfl rfl ?_)
    refine ws (st_no rfl rfl rfl ?_)
    refine ws (st_no rfl rfl rfl ?_)
    refine ws (st_no rfl rfl rfl ?_)
    refine ws (st_po (po_pick_f rfl rfl) rfl rfl rfl ?_)
    refine ws (st_po (po_move rfl) rfl rfl rfl ?_)
    refine ws (st_no rfl rfl rfl ?_)
    refine ws (st_no rfl rfl rfl ?_)
    refine ws (st_no rfl rfl rfl ?_)
    refine ws (st_no rfl rfl rfl ?_)
    refine ws (st_po (po_pick_f rfl rfl) rfl rfl rfl ?_)
    refine ws (st_po (po_assign rfl) rfl rfl rfl ?_)
    refine s_nil ?_
    refine at_then_wp ?_
    refine r_ret ?_
    refine at_ret1 rfl (rv_tmp rfl) ⟨_, ⟨by simp [MayT, h1], rfl⟩, ?_⟩
    try dsimp only [List.cons_append, List.nil_append]
    exact ent

theorem tile_is (tc : Value) (t : Tile) (l : Int) (hl : t.c.length ≤ 2^30) : Spec PP 159 #[tileV tc t, .int .i64 l] [Sl eB tc t.c] (fun v M => v = .bool (decide (0 ≤ l ∧ l < t.c.length ∧ MayT t)) ∧ M = [Sl eB tc t.c]) := by
  refine spec_of (Go.Proofs.Tryz.func159) rfl rfl rfl (by exact fc_enters_159) ?_
  intro g F
  try dsimp only [List.cons_append, List.nil_append]
  refine r_seq ?_
  refine r_reg ?_
  refine ws (st_xo (xo_box rfl rfl) rfl rfl rfl ?_)
  rintro _ _ ⟨b2, rfl, rfl⟩
  refine ws (st_po (po_assign rfl) rfl rfl rfl ?_)
  refine s_nil ?_
  refine at_then_wp ?_
  refine r_seq ?_
  refine r_reg ?_
  refine ws (st_po (po_move rfl) rfl rfl rfl ?_)
  refine ws (st_po (po_ge rfl rfl) rfl rfl rfl ?_)
  by_cases h1 : 0 ≤ l
  · skip
    refine ws (st_po (po_bt (po_move rfl) (decide_eq_true h1)) rfl rfl rfl ?_)
    refine ws (st_po (po_move rfl) rfl rfl rfl ?_)
    refine ws (st_po (po_faddr rfl (by exact fc_field_41_2_2)) rfl rfl rfl ?_)
    refine ws (st_po (po_load rfl (by exact fc_flat_22) (by rfl)) rfl rfl rfl ?_)
    refine ws (st_po (po_len rfl (by exact fc_slice_22_5_1)) rfl rfl rfl ?_)
    refine ws (st_po (po_lt rfl rfl) rfl rfl rfl ?_)
    refine ws (st_po (po_pick_t rfl rfl) rfl rfl rfl ?_)
    by_cases h2 : l < t.c.length
    · skip
      refine ws (st_po (po_bt (po_move rfl) (decide_eq_true h2)) rfl rfl rfl ?_)
      refine ws (st_po (po_loada rfl (by exact fc_agg_41_3) (by rfl)) rfl rfl rfl ?_)
      refine ws (st_call (co_fn rfl rfl) (tile_May tc t hl) (by infer_instance) rfl rfl rfl ?_)
      rintro _ _ ⟨rfl, rfl⟩
      try dsimp only [List.cons_append, List.nil_append]
      refine ws (st_po (po_pick_t rfl rfl) rfl rfl rfl ?_)
      refine ws (st_po (po_assign rfl) rfl rfl rfl ?_)
      refine s_nil ?_
      refine at_then_wp ?_
      refine r_ret ?_
      refine at_ret1 rfl (rv_tmp rfl) ⟨_, ⟨by simp [h1, h2], rfl⟩, ?_⟩
      try dsimp only [List.cons_append, List.nil_append]
      exact ent
    · skip
      refine ws (st_po (po_bf (po_move rfl) (decide_eq_false h2)) rfl rfl rfl ?_)
      refine ws (st_no rfl rfl rfl ?_)
      refine ws (st_no rfl rfl rfl ?_)
      refine ws (st_po (po_pick_f rfl rfl) rfl rfl rfl ?_)
      refine ws (st_po (po_assign rfl) rfl rfl rfl ?_)
      refine s_nil ?_
      refine at_then_wp ?_
      refine r_ret ?_
      refine at_ret1 rfl (rv_tmp rfl) ⟨_, ⟨by simp [h1, h2], rfl⟩, ?_⟩
      try dsimp only [List.cons_append, List.nil_append]
      exact ent
  · skip
    refine ws (st_po (po_bf (po_move rfl) (decide_eq_false h1)) rfl rfl rfl ?_)
    refine ws (st_no rfl rfl rfl ?_)
    refine ws (st_no rfl rfl rfl ?_)
    refine ws (st_no rfl rfl rfl ?_)
    refine ws (st_no rfl rfl rfl ?_)
    refine ws (st_no rfl rfl rfl ?_)
    refine ws (st_po (po_pick_f rfl rfl) rfl rfl rfl ?_)
    refine ws (st_po (po_move rfl) rfl rfl rfl ?_)
    refine ws (st_no rfl rfl rfl ?_)
    refine ws (st_no rfl rfl rfl ?_)
    refine ws (st_po (po_pick_f rfl rfl) rfl rfl rfl ?_)
    refine ws (st_po (po_assign rfl) rfl rfl rfl ?_)
    refine s_nil ?_
    refine at_then_wp ?_
    refine r_ret ?_
    refine at_ret1 rfl (rv_tmp rfl) ⟨_, ⟨by simp [h1], rfl⟩, ?_⟩
    try dsimp only [List.cons_append, List.nil_append]
    exact ent

/-- 2.1: the cost of a local -/
def tileAt (t : Tile) (l : Int) : Int := if 0 ≤ l ∧ l < t.c.length ∧ MayT t then cAt t.c l else 0
theorem tile_At (tc : Value) (t : Tile) (l : Int) (hl : t.c.length ≤ 2^30) (hc : Bytes t.c) : Spec PP 156 #[tileV tc t, .int .i64 l] [Sl eB tc t.c] (fun v M => v = .int .i64 (tileAt t l) ∧ M = [Sl eB tc t.c]) := by
  refine spec_of (Go.Proofs.Tryz.func156) rfl rfl rfl (by exact fc_enters_156) ?_
  intro g F
  try dsimp only [List.cons_append, List.nil_append]
  refine r_seq ?_
  refine r_reg ?_
  refine ws (st_xo (xo_box rfl rfl) rfl rfl rfl ?_)
  rintro _ _ ⟨b2, rfl, rfl⟩
  refine ws (st_po (po_assign rfl) rfl rfl rfl ?_)
  refine s_nil ?_
  refine at_then_wp ?_
  refine r_seq ?_
  refine r_seq ?_
  refine r_reg ?_
  refine ws (st_po (po_loada rfl (by exact fc_agg_41_3) (by rfl)) rfl rfl rfl ?_)
  refine ws (st_po (po_move rfl) rfl rfl rfl ?_)
  refine ws (st_call (co_fn rfl rfl) (tile_is tc t l hl) (by infer_instance) rfl rfl rfl ?_)
  rintro _ _ ⟨rfl, rfl⟩
  try dsimp only [List.cons_append, List.nil_append]
  refine ws (st_po (po_not rfl) rfl rfl rfl ?_)
  refine s_nil ?_
  refine at_then_wp ?_
  first | refine r_cond_not rfl ?_ ?_ | refine r_cond_dec rfl ?_ ?_ | refine r_cond rfl ?_ ?_
  · intro h
    refine r_seq ?_
    refine r_reg ?_
    refine ws (st_po (po_assign rfl) rfl rfl rfl ?_)
    refine s_nil ?_
    refine at_then_wp ?_
    refine r_ret ?_
    refine at_then_ret ?_
    refine at_ret1 rfl (rv_tmp rfl) ⟨_, ⟨by rw [tileAt, if_neg h], rfl⟩, ?_⟩
    try dsimp only [List.cons_append, List.nil_append]
    exact ent
  · intro h
    have hx := hc.get (i := l.toNat) (by omega)
    refine r_skip ?_
    refine at_then_wp ?_
    refine r_seq ?_
    refine r_reg ?_
    refine ws (st_po (po_faddr rfl (by exact fc_field_41_2_2)) rfl rfl rfl ?_)
    refine ws (st_po (po_load rfl (by exact fc_flat_22) (by rfl)) rfl rfl rfl ?_)
    refine ws (st_po (po_move rfl) rfl rfl rfl ?_)
    refine ws (st_po (po_iaddr rfl rfl (by exact fc_slice_22_5_1) (by first | omega | (simp only [List.length_nil, List.length_cons, List.length_append, List.length_replicate, List.length_set, List.length_map, List.length_take, List.length_drop]; omega)) (by first | omega | (simp only [List.length_nil, List.length_cons, List.length_append, List.length_replicate, List.length_set, List.length_map, List.length_take, List.length_drop]; omega))) rfl rfl rfl ?_)
    refine ws (st_po (po_load_sl rfl (List.getElem?_eq_getElem (by first | omega | (simp only [List.length_nil, List.length_cons, List.length_append, List.length_replicate, List.length_set, List.length_map, List.length_take, List.length_drop]; omega))) (by exact fc_flat_5) (by rfl)) rfl rfl rfl ?_)
    refine ws (st_po (po_conv_w rfl (by exact fc_int_5_u8) (by exact fc_int_3_i64) (wrap_i64 _ (by omega) (by omega))) rfl rfl rfl ?_)
    refine ws (st_po (po_assign rfl) rfl rfl rfl ?_)
    refine s_nil ?_
    refine at_then_wp ?_
    refine r_ret ?_
    refine at_ret1 rfl (rv_tmp rfl) ⟨_, ⟨by rw [tileAt, if_pos h, cAt_get (by omega)], rfl⟩, ?_⟩
    try dsimp only [List.cons_append, List.nil_append]
    exact ent

theorem seeds_out (tc : Value) (t : Tile) (c s : Int) (hc : 0 ≤ c) (hc2 : c ≤ 2^30) (hw : 1 ≤ t.w ∧ t.w ≤ 16) (hh : 1 ≤ t.h ∧ t.h ≤ 16) : Spec PP 108 #[tileV tc t, .int .i64 c, .int .i64 s] [Sl eB tc t.c] (fun v M => v = .bool (decide (OutS t.w t.h c s)) ∧ M = [Sl eB tc t.c]) := by
  refine spec_of (Go.Proofs.Tryz.func108) rfl rfl rfl (by exact fc_enters_108) ?_
  intro g F
  try dsimp only [List.cons_append, List.nil_append]
  refine r_seq ?_
  refine r_reg ?_
  refine ws (st_xo (xo_box rfl rfl) rfl rfl rfl ?_)
  rintro _ _ ⟨b3, rfl, rfl⟩
  refine ws (st_po (po_assign rfl) rfl rfl rfl ?_)
  refine s_nil ?_
  refine at_then_wp ?_
  refine r_seq ?_
  refine r_ord [] _ [(0, 1), (1, 1), (2, 0), (3, 1), (4, 1), (5, 1), (6, 0), (7, 1), (8, 1), (9, 1)] fc_mixed (by kernel_rfl) (fun _ h => h) ?_
  refine o_fr rfl (po_move rfl) rfl rfl rfl ?_
  refine o_fr rfl (po_faddr rfl (by exact fc_field_41_0_0)) rfl rfl rfl ?_
  refine o_rd rfl (po_load rfl (by exact fc_flat_3) (by rfl)) (by first | exact fun _ h => h | exact ent) rfl rfl rfl ?_
  refine o_fr rfl (po_rem' rfl rfl (by omega) (by omega)) rfl rfl rfl ?_
  refine o_fr rfl (po_move rfl) rfl rfl rfl ?_
  refine o_fr rfl (po_faddr rfl (by exact fc_field_41_0_0)) rfl rfl rfl ?_
  refine o_rd rfl (po_load rfl (by exact fc_flat_3) (by rfl)) (by first | exact fun _ h => h | exact ent) rfl rfl rfl ?_
  refine o_fr rfl (po_quo' rfl rfl (by omega) (by omega) (by omega)) rfl rfl rfl ?_
  refine o_fr rfl (po_assign rfl) rfl rfl rfl ?_
  refine o_fr rfl (po_assign rfl) rfl rfl rfl ?_
  refine o_nil ?_
  refine at_then_wp ?_
  refine r_seq ?_
  refine r_seq ?_
  refine r_reg ?_
  refine ws (st_po (po_move rfl) rfl rfl rfl ?_)
  refine s_nil ?_
  refine at_then_wp ?_
  refine r_block ?_
  refine r_seq ?_
  refine r_reg ?_
  refine ws (st_po (po_eq rfl rfl) rfl rfl rfl ?_)
  refine ws (st_po (po_assign rfl) rfl rfl rfl ?_)
  refine s_nil ?_
  refine at_then_wp ?_
  first | refine r_cond_not rfl ?_ ?_ | refine r_cond_dec rfl ?_ ?_ | refine r_cond rfl ?_ ?_
  · intro h0
    refine r_seq ?_
    refine r_reg ?_
    refine ws (st_po (po_move rfl) rfl rfl rfl ?_)
    refine ws (st_po (po_eq rfl rfl) rfl rfl rfl ?_)
    refine ws (st_po (po_assign rfl) rfl rfl rfl ?_)
    refine s_nil ?_
    refine at_then_wp ?_
    refine r_ret ?_
    refine at_block_ret ?_
    refine at_then_ret ?_
    refine at_ret1 rfl (rv_tmp rfl) ⟨_, ⟨by simp only [OutS, if_pos h0], rfl⟩, ?_⟩
    try dsimp only [List.cons_append, List.nil_append]
    exact ent
  · intro h0
    refine r_seq ?_
    refine r_reg ?_
    refine ws (st_po (po_eq rfl rfl) rfl rfl rfl ?_)
    refine ws (st_po (po_assign rfl) rfl rfl rfl ?_)
    refine s_nil ?_
    refine at_then_wp ?_
    first | refine r_cond_not rfl ?_ ?_ | refine r_cond_dec rfl ?_ ?_ | refine r_cond rfl ?_ ?_
    · intro h1
      refine r_seq ?_
      refine r_reg ?_
      refine ws (st_po (po_move rfl) rfl rfl rfl ?_)
      refine ws (st_po (po_faddr rfl (by exact fc_field_41_0_0)) rfl rfl rfl ?_)
      refine ws (st_po (po_load rfl (by exact fc_flat_3) (by rfl)) rfl rfl rfl ?_)
      refine ws (st_po (po_sub' rfl rfl (by omega) (by omega)) rfl rfl rfl ?_)
      refine ws (st_po (po_eq rfl rfl) rfl rfl rfl ?_)
      refine ws (st_po (po_assign rfl) rfl rfl rfl ?_)
      refine s_nil ?_
      refine at_then_wp ?_
      refine r_ret ?_
      refine at_block_ret ?_
      refine at_then_ret ?_
      refine at_ret1 rfl (rv_tmp rfl) ⟨_, ⟨by simp only [OutS, if_neg h0, if_pos h1], rfl⟩, ?_⟩
      try dsimp only [List.cons_append, List.nil_append]
      exact ent
    · intro h1
      refine r_seq ?_
      refine r_reg ?_
      refine ws (st_po (po_eq rfl rfl) rfl rfl rfl ?_)
      refine ws (st_po (po_assign rfl) rfl rfl rfl ?_)
      refine s_nil ?_
      refine at_then_wp ?_
      first | refine r_cond_not rfl ?_ ?_ | refine r_cond_dec rfl ?_ ?_ | refine r_cond rfl ?_ ?_
      · intro h2
        refine r_seq ?_
        refine r_reg ?_
        refine ws (st_po (po_move rfl) rfl rfl rfl ?_)
        refine ws (st_po (po_faddr rfl (by exact fc_field_41_1_1)) rfl rfl rfl ?_)
        refine ws (st_po (po_load rfl (by exact fc_flat_3) (by rfl)) rfl rfl rfl ?_)
        refine ws (st_po (po_sub' rfl rfl (by omega) (by omega)) rfl rfl rfl ?_)
        refine ws (st_po (po_eq rfl rfl) rfl rfl rfl ?_)
        refine ws (st_po (po_assign rfl) rfl rfl rfl ?_)
        refine s_nil ?_
        refine at_then_wp ?_
        refine r_ret ?_
        refine at_block_ret ?_
        refine at_then_ret ?_
        refine at_ret1 rfl (rv_tmp rfl) ⟨_, ⟨by simp only [OutS, if_neg h0, if_neg h1, if_pos h2], rfl⟩, ?_⟩
        try dsimp only [List.cons_append, List.nil_append]
        exact ent
      · intro h2
        refine r_seq ?_
        refine r_reg ?_
        refine ws (st_po (po_eq rfl rfl) rfl rfl rfl ?_)
        refine ws (st_po (po_assign rfl) rfl rfl rfl ?_)
        refine s_nil ?_
        refine at_then_wp ?_
        first | refine r_cond_not rfl ?_ ?_ | refine r_cond_dec rfl ?_ ?_ | refine r_cond rfl ?_ ?_
        · intro h3
          refine r_seq ?_
          refine r_reg ?_
          refine ws (st_po (po_move rfl) rfl rfl rfl ?_)
          refine ws (st_po (po_eq rfl rfl) rfl rfl rfl ?_)
          refine ws (st_po (po_assign rfl) rfl rfl rfl ?_)
          refine s_nil ?_
          refine at_then_wp ?_
          refine r_ret ?_
          refine at_block_ret ?_
          refine at_then_ret ?_
          refine at_ret1 rfl (rv_tmp rfl) ⟨_, ⟨by simp only [OutS, if_neg h0, if_neg h1, if_neg h2, if_pos h3], rfl⟩, ?_⟩
          try dsimp only [List.cons_append, List.nil_append]
          exact ent
        · intro h3
          refine r_skip ?_
          refine at_block_normal ?_
          refine at_then_wp ?_
          refine r_seq ?_
          refine r_reg ?_
          refine ws (st_po (po_move rfl) rfl rfl rfl ?_)
          refine ws (st_po (po_eq rfl rfl) rfl rfl rfl ?_)
          refine ws (st_po (po_assign rfl) rfl rfl rfl ?_)
          refine s_nil ?_
          refine at_then_wp ?_
          refine r_ret ?_
          refine at_ret1 rfl (rv_tmp rfl) ⟨_, ⟨by simp only [OutS, if_neg h0, if_neg h1, if_neg h2, if_neg h3], rfl⟩, ?_⟩
          try dsimp only [List.cons_append, List.nil_append]
          exact ent

/-- a struct of a tile, where it lies for a closure -/
abbrev tileB (b : Nat) (tc : Value) (t : Tile) : HP := Blk b 41 [.int .i64 t.w, .int .i64 t.h, tc]
theorem seeds_May1 (b : Nat) (tc : Value) (t : Tile) (s : Seed) (hl : t.c.length ≤ 2^30) (hw : 1 ≤ t.w ∧ t.w ≤ 16) (hh : 1 ≤ t.h ∧ t.h ≤ 16) :
    Spec PP 107 #[.agg #[.int .i64 s.cell, .int .i64 s.side, .int .i64 s.key], .pointer (some ⟨b, 0, none⟩)] [tileB b tc t, Sl eB tc t.c] (fun v M => v = .bool (!decide (MaySd t s)) ∧ M = [tileB b tc t, Sl eB tc t.c]) := by
  refine spec_of (Go.Proofs.Tryz.func107) rfl rfl rfl (by exact fc_enters_107) ?_
  intro g F
  try dsimp only [List.cons_append, List.nil_append]
  refine r_seq ?_
  refine r_reg ?_
  refine ws (st_xo (xo_box rfl rfl) rfl rfl rfl ?_)
  rintro _ _ ⟨b2, rfl, rfl⟩
  refine ws (st_po (po_assign rfl) rfl rfl rfl ?_)
  refine s_nil ?_
  refine at_then_wp ?_
  refine r_seq ?_
  refine r_reg ?_
  refine ws (st_po (po_faddr rfl (by exact fc_field_45_0_0)) rfl rfl rfl ?_)
  refine ws (st_po (po_load rfl (by exact fc_flat_3) (by rfl)) rfl rfl rfl ?_)
  refine ws (st_po (po_lt rfl rfl) rfl rfl rfl ?_)
  by_cases h1 : s.cell < 0
  · skip
    refine ws (st_po (po_bt (po_move rfl) (decide_eq_true h1)) rfl rfl rfl ?_)
    refine ws (st_no rfl rfl rfl ?_)
    refine ws (st_no rfl rfl rfl ?_)
    refine ws (st_no rfl rfl rfl ?_)
    refine ws (st_no rfl rfl rfl ?_)
    refine ws (st_no rfl rfl rfl ?_)
    refine ws (st_no rfl rfl rfl ?_)
    refine ws (st_po (po_pick_t rfl rfl) rfl rfl rfl ?_)
    refine ws (st_po (po_move rfl) rfl rfl rfl ?_)
    refine ws (st_no rfl rfl rfl ?_)
    refine ws (st_no rfl rfl rfl ?_)
    refine ws (st_no rfl rfl rfl ?_)
    refine ws (st_no rfl rfl rfl ?_)
    refine ws (st_no rfl rfl rfl ?_)
    refine ws (st_no rfl rfl rfl ?_)
    refine ws (st_no rfl rfl rfl ?_)
    refine ws (st_po (po_pick_t rfl rfl) rfl rfl rfl ?_)
    refine ws (st_po (po_move rfl) rfl rfl rfl ?_)
    refine ws (st_no rfl rfl rfl ?_)
    refine ws (st_no rfl rfl rfl ?_)
    refine ws (st_no rfl rfl rfl ?_)
    refine ws (st_po (po_pick_t rfl rfl) rfl rfl rfl ?_)
    refine ws (st_po (po_move rfl) rfl rfl rfl ?_)
    refine ws (st_no rfl rfl rfl ?_)
    refine ws (st_no rfl rfl rfl ?_)
    refine ws (st_no rfl rfl rfl ?_)
    refine ws (st_po (po_pick_t rfl rfl) rfl rfl rfl ?_)
    refine ws (st_po (po_move rfl) rfl rfl rfl ?_)
    refine ws (st_no rfl rfl rfl ?_)
    refine ws (st_no rfl rfl rfl ?_)
    refine ws (st_no rfl rfl rfl ?_)
    refine ws (st_no rfl rfl rfl ?_)
    refine ws (st_no rfl rfl rfl ?_)
    refine ws (st_no rfl rfl rfl ?_)
    refine ws (st_no rfl rfl rfl ?_)
    refine ws (st_po (po_pick_t rfl rfl) rfl rfl rfl ?_)
    refine ws (st_po (po_assign rfl) rfl rfl rfl ?_)
    refine s_nil ?_
    refine at_then_wp ?_
    refine r_ret ?_
    refine at_ret1 rfl (rv_tmp rfl) ⟨_, ⟨by rw [decide_eq_false (by simp only [MaySd]; omega)]; rfl, rfl⟩, ?_⟩
    try dsimp only [List.cons_append, List.nil_append]
    exact ent
  · skip
    refine ws (st_po (po_bf (po_move rfl) (decide_eq_false h1)) rfl rfl rfl ?_)
    refine ws (st_po (po_faddr rfl (by exact fc_field_45_0_0)) rfl rfl rfl ?_)
    refine ws (st_po (po_load rfl (by exact fc_flat_3) (by rfl)) rfl rfl rfl ?_)
    refine ws (st_po (po_faddr rfl (by exact fc_field_41_2_2)) rfl rfl rfl ?_)
    refine ws (st_po (po_load rfl (by exact fc_flat_22) (by rfl)) rfl rfl rfl ?_)
    refine ws (st_po (po_len rfl (by exact fc_slice_22_5_1)) rfl rfl rfl ?_)
    refine ws (st_po (po_ge rfl rfl) rfl rfl rfl ?_)
    refine ws (st_po (po_pick_f rfl rfl) rfl rfl rfl ?_)
    by_cases h2 : (t.c.length : Int) ≤ s.cell
    · skip
      refine ws (st_po (po_bt (po_move rfl) (decide_eq_true h2)) rfl rfl rfl ?_)
      refine ws (st_no rfl rfl rfl ?_)
      refine ws (st_no rfl rfl rfl ?_)
      refine ws (st_no rfl rfl rfl ?_)
      refine ws (st_no rfl rfl rfl ?_)
      refine ws (st_no rfl rfl rfl ?_)
      refine ws (st_no rfl rfl rfl ?_)
      refine ws (st_no rfl rfl rfl ?_)
      refine ws (st_po (po_pick_t rfl rfl) rfl rfl rfl ?_)
      refine ws (st_po (po_move rfl) rfl rfl rfl ?_)
      refine ws (st_no rfl rfl rfl ?_)
      refine ws (st_no rfl rfl rfl ?_)
      refine ws (st_no rfl rfl rfl ?_)
      refine ws (st_po (po_pick_t rfl rfl) rfl rfl rfl ?_)
      refine ws (st_po (po_move rfl) rfl rfl rfl ?_)
      refine ws (st_no rfl rfl rfl ?_)
      refine ws (st_no rfl rfl rfl ?_)
      refine ws (st_no rfl rfl rfl ?_)
      refine ws (st_po (po_pick_t rfl rfl) rfl rfl rfl ?_)
      refine ws (st_po (po_move rfl) rfl rfl rfl ?_)
      refine ws (st_no rfl rfl rfl ?_)
      refine ws (st_no rfl rfl rfl ?_)
      refine ws (st_no rfl rfl rfl ?_)
      refine ws (st_no rfl rfl rfl ?_)
      refine ws (st_no rfl rfl rfl ?_)
      refine ws (st_no rfl rfl rfl ?_)
      refine ws (st_no rfl rfl rfl ?_)
      refine ws (st_po (po_pick_t rfl rfl) rfl rfl rfl ?_)
      refine ws (st_po (po_assign rfl) rfl rfl rfl ?_)
      refine s_nil ?_
      refine at_then_wp ?_
      refine r_ret ?_
      refine at_ret1 rfl (rv_tmp rfl) ⟨_, ⟨by rw [decide_eq_false (by simp only [MaySd]; omega)]; rfl, rfl⟩, ?_⟩
      try dsimp only [List.cons_append, List.nil_append]
      exact ent
    · skip
      refine ws (st_po (po_bf (po_move rfl) (decide_eq_false h2)) rfl rfl rfl ?_)
      refine ws (st_po (po_faddr rfl (by exact fc_field_41_2_2)) rfl rfl rfl ?_)
      refine ws (st_po (po_load rfl (by exact fc_flat_22) (by rfl)) rfl rfl rfl ?_)
      refine ws (st_po (po_faddr rfl (by exact fc_field_45_0_0)) rfl rfl rfl ?_)
      refine ws (st_po (po_load rfl (by exact fc_flat_3) (by rfl)) rfl rfl rfl ?_)
      refine ws (st_po (po_iaddr rfl rfl (by exact fc_slice_22_5_1) (by first | omega | (simp only [List.length_nil, List.length_cons, List.length_append, List.length_replicate, List.length_set, List.length_map, List.length_take, List.length_drop]; omega)) (by first | omega | (simp only [List.length_nil, List.length_cons, List.length_append, List.length_replicate, List.length_set, List.length_map, List.length_take, List.length_drop]; omega))) rfl rfl rfl ?_)
      refine ws (st_po (po_load_sl rfl (List.getElem?_eq_getElem (by first | omega | (simp only [List.length_nil, List.length_cons, List.length_append, List.length_replicate, List.length_set, List.length_map, List.length_take, List.length_drop]; omega))) (by exact fc_flat_5) (by rfl)) rfl rfl rfl ?_)
      refine ws (st_po (po_eq rfl rfl) rfl rfl rfl ?_)
      refine ws (st_po (po_pick_f rfl rfl) rfl rfl rfl ?_)
      by_cases h3 : t.c[s.cell.toNat]'(by omega) = 255
      · skip
        refine ws (st_po (po_bt (po_move rfl) (decide_eq_true h3)) rfl rfl rfl ?_)
        refine ws (st_no rfl rfl rfl ?_)
        refine ws (st_no rfl rfl rfl ?_)
        refine ws (st_no rfl rfl rfl ?_)
        refine ws (st_po (po_pick_t rfl rfl) rfl rfl rfl ?_)
        refine ws (st_po (po_move rfl) rfl rfl rfl ?_)
        refine ws (st_no rfl rfl rfl ?_)
        refine ws (st_no rfl rfl rfl ?_)
        refine ws (st_no rfl rfl rfl ?_)
        refine ws (st_po (po_pick_t rfl rfl) rfl rfl rfl ?_)
        refine ws (st_po (po_move rfl) rfl rfl rfl ?_)
        refine ws (st_no rfl rfl rfl ?_)
        refine ws (st_no rfl rfl rfl ?_)
        refine ws (st_no rfl rfl rfl ?_)
        refine ws (st_no rfl rfl rfl ?_)
        refine ws (st_no rfl rfl rfl ?_)
        refine ws (st_no rfl rfl rfl ?_)
        refine ws (st_no rfl rfl rfl ?_)
        refine ws (st_po (po_pick_t rfl rfl) rfl rfl rfl ?_)
        refine ws (st_po (po_assign rfl) rfl rfl rfl ?_)
        refine s_nil ?_
        refine at_then_wp ?_
        refine r_ret ?_
        refine at_ret1 rfl (rv_tmp rfl) ⟨_, ⟨by rw [decide_eq_false (by simp only [MaySd, cAt_get (show s.cell.toNat < t.c.length by omega)]; simp [h3])]; rfl, rfl⟩, ?_⟩
        try dsimp only [List.cons_append, List.nil_append]
        exact ent
      · skip
        refine ws (st_po (po_bf (po_move rfl) (decide_eq_false h3)) rfl rfl rfl ?_)
        refine ws (st_po (po_faddr rfl (by exact fc_field_45_2_2)) rfl rfl rfl ?_)
        refine ws (st_po (po_load rfl (by exact fc_flat_3) (by rfl)) rfl rfl rfl ?_)
        refine ws (st_po (po_lt rfl rfl) rfl rfl rfl ?_)
        refine ws (st_po (po_pick_f rfl rfl) rfl rfl rfl ?_)
        by_cases h4 : s.key < 0
        · skip
          refine ws (st_po (po_bt (po_move rfl) (decide_eq_true h4)) rfl rfl rfl ?_)
          refine ws (st_no rfl rfl rfl ?_)
          refine ws (st_no rfl rfl rfl ?_)
          refine ws (st_no rfl rfl rfl ?_)
          refine ws (st_po (po_pick_t rfl rfl) rfl rfl rfl ?_)
          refine ws (st_po (po_move rfl) rfl rfl rfl ?_)
          refine ws (st_no rfl rfl rfl ?_)
          refine ws (st_no rfl rfl rfl ?_)
          refine ws (st_no rfl rfl rfl ?_)
          refine ws (st_no rfl rfl rfl ?_)
          refine ws (st_no rfl rfl rfl ?_)
          refine ws (st_no rfl rfl rfl ?_)
          refine ws (st_no rfl rfl rfl ?_)
          refine ws (st_po (po_pick_t rfl rfl) rfl rfl rfl ?_)
          refine ws (st_po (po_assign rfl) rfl rfl rfl ?_)
          refine s_nil ?_
          refine at_then_wp ?_
          refine r_ret ?_
          refine at_ret1 rfl (rv_tmp rfl) ⟨_, ⟨by rw [decide_eq_false (by simp only [MaySd]; omega)]; rfl, rfl⟩, ?_⟩
          try dsimp only [List.cons_append, List.nil_append]
          exact ent
        · skip
          refine ws (st_po (po_bf (po_move rfl) (decide_eq_false h4)) rfl rfl rfl ?_)
          refine ws (st_po (po_faddr rfl (by exact fc_field_45_2_2)) rfl rfl rfl ?_)
          refine ws (st_po (po_load rfl (by exact fc_flat_3) (by rfl)) rfl rfl rfl ?_)
          refine ws (st_po (po_gt rfl rfl) rfl rfl rfl ?_)
          refine ws (st_po (po_pick_f rfl rfl) rfl rfl rfl ?_)
          by_cases h5 : 1073741824 < s.key
          · skip
            refine ws (st_po (po_bt (po_move rfl) (decide_eq_true h5)) rfl rfl rfl ?_)
            refine ws (st_no rfl rfl rfl ?_)
            refine ws (st_no rfl rfl rfl ?_)
            refine ws (st_no rfl rfl rfl ?_)
            refine ws (st_no rfl rfl rfl ?_)
            refine ws (st_no rfl rfl rfl ?_)
            refine ws (st_no rfl rfl rfl ?_)
            refine ws (st_no rfl rfl rfl ?_)
            refine ws (st_po (po_pick_t rfl rfl) rfl rfl rfl ?_)
            refine ws (st_po (po_assign rfl) rfl rfl rfl ?_)
            refine s_nil ?_
            refine at_then_wp ?_
            refine r_ret ?_
            refine at_ret1 rfl (rv_tmp rfl) ⟨_, ⟨by rw [decide_eq_false (by simp only [MaySd]; omega)]; rfl, rfl⟩, ?_⟩
            try dsimp only [List.cons_append, List.nil_append]
            exact ent
          · skip
            refine ws (st_po (po_bf (po_move rfl) (decide_eq_false h5)) rfl rfl rfl ?_)
            refine ws (st_po (po_loada rfl (by exact fc_agg_41_3) (by rfl)) rfl rfl rfl ?_)
            refine ws (st_po (po_faddr rfl (by exact fc_field_45_0_0)) rfl rfl rfl ?_)
            refine ws (st_po (po_load rfl (by exact fc_flat_3) (by rfl)) rfl rfl rfl ?_)
            refine ws (st_po (po_faddr rfl (by exact fc_field_45_1_1)) rfl rfl rfl ?_)
            refine ws (st_po (po_load rfl (by exact fc_flat_3) (by rfl)) rfl rfl rfl ?_)
            refine ws (st_call (co_fn rfl rfl) (seeds_out tc t s.cell s.side (by omega) (by omega) hw hh) (by infer_instance) rfl rfl rfl ?_)
            rintro _ _ ⟨rfl, rfl⟩
            try dsimp only [List.cons_append, List.nil_append]
            refine ws (st_po (po_not rfl) rfl rfl rfl ?_)
            refine ws (st_po (po_pick_f rfl rfl) rfl rfl rfl ?_)
            refine ws (st_po (po_assign rfl) rfl rfl rfl ?_)
            refine s_nil ?_
            refine at_then_wp ?_
            refine r_ret ?_
            refine at_ret1 rfl (rv_tmp rfl) ⟨_, ⟨by congr 2; refine decide_eq_decide.2 ?_; simp only [MaySd, cAt_get (show s.cell.toNat < t.c.length by omega)]; constructor; exact (fun h => ⟨by omega, by omega, h3, by omega, by omega, h⟩); exact (fun h => h.2.2.2.2.2), rfl⟩, ?_⟩
            try dsimp only [List.cons_append, List.nil_append]
            exact ent

theorem index_S (f : Nat) (cs : List Value) (A : HP) (p : Seed → Bool) (s : Value) (xs : List Seed) (hl : xs.length ≤ 2^30)
    (hf : ∀ x : Seed, Spec PP f (Value.agg #[.int .i64 x.cell, .int .i64 x.side, .int .i64 x.key] :: cs).toArray [A] (fun v M => v = .bool (p x) ∧ M = [A])) :
    Spec PP 136 #[s, .func (.func f) #[] cs.toArray] [Sl eS s xs, A] (fun v M => (∃ r : Int, v = .int .i64 r ∧ -1 ≤ r ∧ (0 ≤ r ↔ ∃ x ∈ xs, p x = true)) ∧ M = [Sl eS s xs, A]) := by
  refine spec_of (Go.Proofs.Tryz.func136) rfl rfl rfl (by exact fc_enters_136) ?_
  intro g F
  try dsimp only [List.cons_append, List.nil_append]
  refine r_seq ?_
  refine r_reg ?_
  refine ws (st_po (po_assign rfl) rfl rfl rfl ?_)
  refine s_nil ?_
  refine at_then_wp ?_
  refine r_seq ?_
  refine r_seq ?_
  refine r_reg ?_
  refine ws (st_po (po_move rfl) rfl rfl rfl ?_)
  refine ws (st_po (po_len rfl (by exact fc_slice_32_45_3)) rfl rfl rfl ?_)
  refine ws (st_po (po_move rfl) rfl rfl rfl ?_)
  refine s_nil ?_
  refine at_then_wp ?_
  refine r_block ?_
  refine r_loop (S := Nat) (fun k => [(8, .int .i64 k)]) [(0, _), (1, _), (7, _)] (fun k => [Sl eS s xs, A, F]) (fun k => k ≤ xs.length ∧ ∀ j, (h : j < xs.length) → j < k → p xs[j] = false) (fun k => xs.length - k) (0) (And.intro rfl (And.intro rfl (And.intro rfl (trivial)))) (And.intro rfl (trivial)) (⟨by omega, fun j _ h => by omega⟩) ent ?_
  rintro k ⟨hk, hne⟩
  try dsimp only
  refine r_seq ?_
  refine r_reg ?_
  refine ws (st_po (po_lt rfl rfl) rfl rfl rfl ?_)
  refine s_nil ?_
  refine at_then_wp ?_
  refine r_seq ?_
  first | refine r_cond_not rfl ?_ ?_ | refine r_cond_dec rfl ?_ ?_ | refine r_cond rfl ?_ ?_
  · intro hlt
    refine r_skip ?_
    refine at_then_wp ?_
    refine r_seq ?_
    refine r_block ?_
    refine r_seq ?_
    refine r_reg ?_
    refine ws (st_po (po_move rfl) rfl rfl rfl ?_)
    refine ws (st_po (po_assign rfl) rfl rfl rfl ?_)
    refine s_nil ?_
    refine at_then_wp ?_
    refine r_seq ?_
    refine r_reg ?_
    refine ws (st_po (po_move rfl) rfl rfl rfl ?_)
    refine ws (st_po (po_move rfl) rfl rfl rfl ?_)
    refine ws (st_po (po_move rfl) rfl rfl rfl ?_)
    refine ws (st_po (po_iaddr rfl rfl (by exact fc_slice_32_45_3) (by first | omega | (simp only [List.length_nil, List.length_cons, List.length_append, List.length_replicate, List.length_set, List.length_map, List.length_take, List.length_drop]; omega)) (by first | omega | (simp only [List.length_nil, List.length_cons, List.length_append, List.length_replicate, List.length_set, List.length_map, List.length_take, List.length_drop]; omega))) rfl rfl rfl ?_)
    refine ws (st_po (ld_eS rfl (List.getElem?_eq_getElem (by first | omega | (simp only [List.length_nil, List.length_cons, List.length_append, List.length_replicate, List.length_set, List.length_map, List.length_take, List.length_drop]; omega))) (by exact fc_agg_45_3)) rfl rfl rfl ?_)
    refine ws (st_call (co_clo (fs := []) rfl rfl) (hf (xs[k]'(by omega))) (by infer_instance) rfl rfl rfl ?_)
    rintro _ _ ⟨rfl, rfl⟩
    try dsimp only [List.cons_append, List.nil_append]
    refine s_nil ?_
    refine at_then_wp ?_
    first | refine r_cond_not rfl ?_ ?_ | refine r_cond_dec rfl ?_ ?_ | refine r_cond rfl ?_ ?_
    · intro heq
      refine r_seq ?_
      refine r_reg ?_
      refine ws (st_po (po_move rfl) rfl rfl rfl ?_)
      refine ws (st_po (po_assign rfl) rfl rfl rfl ?_)
      refine s_nil ?_
      refine at_then_wp ?_
      refine r_ret ?_
      refine at_block_ret ?_
      refine at_then_ret ?_
      refine at_then_ret ?_
      refine at_block_ret ?_
      refine at_then_ret ?_
      refine at_ret1 rfl (rv_tmp rfl) ⟨_, ⟨⟨_, rfl, by omega, by simp only [Int.natCast_nonneg, true_iff]; exact ⟨_, List.getElem_mem _, heq⟩⟩, rfl⟩, ?_⟩
      try dsimp only [List.cons_append, List.nil_append]
      exact ent
    · intro heq
      refine r_skip ?_
      refine at_block_normal ?_
      refine at_then_wp ?_
      refine r_reg ?_
      refine ws (st_po (po_add' rfl rfl (by omega) (by omega)) rfl rfl rfl ?_)
      refine ws (st_po (po_move rfl) rfl rfl rfl ?_)
      refine s_nil ?_
      exact at_again (k + 1) (And.intro rfl (trivial)) (And.intro rfl (And.intro rfl (And.intro rfl (trivial)))) (⟨by omega, fun j hj h => by by_cases e : j = k; (subst e; simpa using heq); exact hne j hj (by omega)⟩) (by omega) ent
  · intro hlt
    refine r_exit ?_
    refine at_then_exit ?_
    refine at_then_exit ?_
    refine at_block_here ?_
    refine at_then_wp ?_
    refine r_seq ?_
    refine r_reg ?_
    refine ws (st_po (po_assign rfl) rfl rfl rfl ?_)
    refine s_nil ?_
    refine at_then_wp ?_
    refine r_ret ?_
    refine at_ret1 rfl (rv_tmp rfl) ⟨_, ⟨⟨_, rfl, by omega, by constructor; intro h; omega; rintro ⟨x, hx, e⟩; obtain ⟨j, hj, e2⟩ := List.getElem_of_mem hx; subst e2; rw [hne j hj (by omega)] at e; cases e⟩, rfl⟩, ?_⟩
    try dsimp only [List.cons_append, List.nil_append]
    exact ent

theorem contains_S (f : Nat) (cs : List Value) (A : HP) (p : Seed → Bool) (s : Value) (xs : List Seed) (hl : xs.length ≤ 2^30)
    (hf : ∀ x : Seed, Spec PP f (Value.agg #[.int .i64 x.cell, .int .i64 x.side, .int .i64 x.key] :: cs).toArray [A] (fun v M => v = .bool (p x) ∧ M = [A])) :
    Spec PP 106 #[s, .func (.func f) #[] cs.toArray] [Sl eS s xs, A] (fun v M => v = .bool (decide (∃ x ∈ xs, p x = true)) ∧ M = [Sl eS s xs, A]) := by
  refine spec_of (Go.Proofs.Tryz.func106) rfl rfl rfl (by exact fc_enters_106) ?_
  intro g F
  try dsimp only [List.cons_append, List.nil_append]
  refine r_seq ?_
  refine r_reg ?_
  refine ws (st_po (po_assign rfl) rfl rfl rfl ?_)
  refine s_nil ?_
  refine at_then_wp ?_
  refine r_seq ?_
  refine r_reg ?_
  refine ws (st_po (po_move rfl) rfl rfl rfl ?_)
  refine ws (st_po (po_move rfl) rfl rfl rfl ?_)
  refine ws (st_call (co_fn rfl rfl) (index_S f cs A p s xs hl hf) (by infer_instance) rfl rfl rfl ?_)
  rintro _ _ ⟨⟨r, rfl, hr, he⟩, rfl⟩
  try dsimp only [List.cons_append, List.nil_append]
  refine ws (st_po (po_ge rfl rfl) rfl rfl rfl ?_)
  refine ws (st_po (po_assign rfl) rfl rfl rfl ?_)
  refine s_nil ?_
  refine at_then_wp ?_
  refine r_ret ?_
  refine at_ret1 rfl (rv_tmp rfl) ⟨_, ⟨congrArg Value.bool (decide_eq_decide.2 he), rfl⟩, ?_⟩
  try dsimp only [List.cons_append, List.nil_append]
  exact ent
end Hd
end
section
namespace Hd
set_option maxRecDepth 100000
open Go

theorem where_May (w h : Int) : Spec PP 88 #[.int .i64 w, .int .i64 h] [] (fun v M => v = .bool (decide (May w h)) ∧ M = []) := by
  refine spec_of (Go.Proofs.Tryz.func88) rfl rfl rfl (by exact fc_enters_88) ?_
  intro g F
  try dsimp only [List.cons_append, List.nil_append]
  refine r_seq ?_
  refine r_reg ?_
  refine ws (st_po (po_assign rfl) rfl rfl rfl ?_)
  refine s_nil ?_
  refine at_then_wp ?_
  refine r_seq ?_
  refine r_reg ?_
  refine ws (st_po (po_move rfl) rfl rfl rfl ?_)
  refine ws (st_po (po_ge rfl rfl) rfl rfl rfl ?_)
  by_cases h1 : 1 ≤ w
  · skip
    refine ws (st_po (po_bt (po_move rfl) (decide_eq_true h1)) rfl rfl rfl ?_)
    refine ws (st_po (po_move rfl) rfl rfl rfl ?_)
    refine ws (st_po (po_le rfl rfl) rfl rfl rfl ?_)
    refine ws (st_po (po_pick_t rfl rfl) rfl rfl rfl ?_)
    by_cases h2 : w ≤ 1024
    · skip
      refine ws (st_po (po_bt (po_move rfl) (decide_eq_true h2)) rfl rfl rfl ?_)
      refine ws (st_po (po_move rfl) rfl rfl rfl ?_)
      refine ws (st_po (po_ge rfl rfl) rfl rfl rfl ?_)
      refine ws (st_po (po_pick_t rfl rfl) rfl rfl rfl ?_)
      by_cases h3 : 1 ≤ h
      · skip
        refine ws (st_po (po_bt (po_move rfl) (decide_eq_true h3)) rfl rfl rfl ?_)
        refine ws (st_po (po_move rfl) rfl rfl rfl ?_)
        refine ws (st_po (po_le rfl rfl) rfl rfl rfl ?_)
        refine ws (st_po (po_pick_t rfl rfl) rfl rfl rfl ?_)
        refine ws (st_po (po_assign rfl) rfl rfl rfl ?_)
        refine s_nil ?_
        refine at_then_wp ?_
        refine r_ret ?_
        refine at_ret1 rfl (rv_tmp rfl) ⟨_, ⟨by simp [h1, h2, h3, May], rfl⟩, ?_⟩
        try dsimp only [List.cons_append, List.nil_append]
        exact ent
      · skip
        refine ws (st_po (po_bf (po_move rfl) (decide_eq_false h3)) rfl rfl rfl ?_)
        refine ws (st_no rfl rfl rfl ?_)
        refine ws (st_no rfl rfl rfl ?_)
        refine ws (st_po (po_pick_f rfl rfl) rfl rfl rfl ?_)
        refine ws (st_po (po_assign rfl) rfl rfl rfl ?_)
        refine s_nil ?_
        refine at_then_wp ?_
        refine r_ret ?_
        refine at_ret1 rfl (rv_tmp rfl) ⟨_, ⟨by simp [h1, h2, h3, May], rfl⟩, ?_⟩
        try dsimp only [List.cons_append, List.nil_append]
        exact ent
    · skip
      refine ws (st_po (po_bf (po_move rfl) (decide_eq_false h2)) rfl rfl rfl ?_)
      refine ws (st_no rfl rfl rfl ?_)
      refine ws (st_no rfl rfl rfl ?_)
      refine ws (st_po (po_pick_f rfl rfl) rfl rfl rfl ?_)
      refine ws (st_po (po_move rfl) rfl rfl rfl ?_)
      refine ws (st_no rfl rfl rfl ?_)
      refine ws (st_no rfl rfl rfl ?_)
      refine ws (st_po (po_pick_f rfl rfl) rfl rfl rfl ?_)
      refine ws (st_po (po_assign rfl) rfl rfl rfl ?_)
      refine s_nil ?_
      refine at_then_wp ?_
      refine r_ret ?_
      refine at_ret1 rfl (rv_tmp rfl) ⟨_, ⟨by simp [h1, h2, May], rfl⟩, ?_⟩
      try dsimp only [List.cons_append, List.nil_append]
      exact ent
  · skip
    refine ws (st_po (po_bf (po_move rfl) (decide_eq_false h1)) rfl rfl rfl ?_)
    refine ws (st_no rfl rfl rfl ?_)
    refine ws (st_no rfl rfl rfl ?_)
    refine ws (st_po (po_pick_f rfl rfl) rfl rfl rfl ?_)
    refine ws (st_po (po_move rfl) rfl rfl rfl ?_)
    refine ws (st_no rfl rfl rfl ?_)
    refine ws (st_no rfl rfl rfl ?_)
    refine ws (st_po (po_pick_f rfl rfl) rfl rfl rfl ?_)
    refine ws (st_po (po_move rfl) rfl rfl rfl ?_)
    refine ws (st_no rfl rfl rfl ?_)
    refine ws (st_no rfl rfl rfl ?_)
    refine ws (st_po (po_pick_f rfl rfl) rfl rfl rfl ?_)
    refine ws (st_po (po_assign rfl) rfl rfl rfl ?_)
    refine s_nil ?_
    refine at_then_wp ?_
    refine r_ret ?_
    refine at_ret1 rfl (rv_tmp rfl) ⟨_, ⟨by simp [h1, May], rfl⟩, ?_⟩
    try dsimp only [List.cons_append, List.nil_append]
    exact ent

theorem where_is (w h c : Int) : Spec PP 73 #[.int .i64 w, .int .i64 h, .int .i64 c] [] (fun v M => v = .bool (decide (IsC w h c)) ∧ M = []) := by
  refine spec_of (Go.Proofs.Tryz.func73) rfl rfl rfl (by exact fc_enters_73) ?_
  intro g F
  try dsimp only [List.cons_append, List.nil_append]
  refine r_seq ?_
  refine r_reg ?_
  refine ws (st_po (po_assign rfl) rfl rfl rfl ?_)
  refine s_nil ?_
  refine at_then_wp ?_
  refine r_seq ?_
  refine r_reg ?_
  refine ws (st_po (po_move rfl) rfl rfl rfl ?_)
  refine ws (st_po (po_move rfl) rfl rfl rfl ?_)
  refine ws (st_call (co_fn rfl rfl) (where_May w h) (by infer_instance) rfl rfl rfl ?_)
  rintro _ _ ⟨rfl, rfl⟩
  try dsimp only [List.cons_append, List.nil_append]
  by_cases hm : May w h
  · skip
    refine ws (st_po (po_bt (po_move rfl) (decide_eq_true hm)) rfl rfl rfl ?_)
    refine ws (st_po (po_move rfl) rfl rfl rfl ?_)
    refine ws (st_po (po_ge rfl rfl) rfl rfl rfl ?_)
    refine ws (st_po (po_pick_t rfl rfl) rfl rfl rfl ?_)
    by_cases h0 : 0 ≤ c
    · skip
      refine ws (st_po (po_bt (po_move rfl) (decide_eq_true h0)) rfl rfl rfl ?_)
      have hb := may_mul hm
      refine ws (st_po (po_move rfl) rfl rfl rfl ?_)
      refine ws (st_po (po_move rfl) rfl rfl rfl ?_)
      refine ws (st_po (po_move rfl) rfl rfl rfl ?_)
      refine ws (st_po (po_mul' rfl rfl (by omega) (by omega)) rfl rfl rfl ?_)
      refine ws (st_po (po_lt rfl rfl) rfl rfl rfl ?_)
      refine ws (st_po (po_pick_t rfl rfl) rfl rfl rfl ?_)
      refine ws (st_po (po_assign rfl) rfl rfl rfl ?_)
      refine s_nil ?_
      refine at_then_wp ?_
      refine r_ret ?_
      refine at_ret1 rfl (rv_tmp rfl) ⟨_, ⟨by simp [hm, h0], rfl⟩, ?_⟩
      try dsimp only [List.cons_append, List.nil_append]
      exact ent
    · skip
      refine ws (st_po (po_bf (po_move rfl) (decide_eq_false h0)) rfl rfl rfl ?_)
      refine ws (st_no rfl rfl rfl ?_)
      refine ws (st_no rfl rfl rfl ?_)
      refine ws (st_no rfl rfl rfl ?_)
      refine ws (st_no rfl rfl rfl ?_)
      refine ws (st_no rfl rfl rfl ?_)
      refine ws (st_po (po_pick_f rfl rfl) rfl rfl rfl ?_)
      refine ws (st_po (po_assign rfl) rfl rfl rfl ?_)
      refine s_nil ?_
      refine at_then_wp ?_
      refine r_ret ?_
      refine at_ret1 rfl (rv_tmp rfl) ⟨_, ⟨by simp [h0], rfl⟩, ?_⟩
      try dsimp only [List.cons_append, List.nil_append]
      exact ent
  · skip
    refine ws (st_po (po_bf (po_move rfl) (decide_eq_false hm)) rfl rfl rfl ?_)
    refine ws (st_no rfl rfl rfl ?_)
    refine ws (st_no rfl rfl rfl ?_)
    refine ws (st_po (po_pick_f rfl rfl) rfl rfl rfl ?_)
    refine ws (st_po (po_move rfl) rfl rfl rfl ?_)
    refine ws (st_no rfl rfl rfl ?_)
    refine ws (st_no rfl rfl rfl ?_)
    refine ws (st_no rfl rfl rfl ?_)
    refine ws (st_no rfl rfl rfl ?_)
    refine ws (st_no rfl rfl rfl ?_)
    refine ws (st_po (po_pick_f rfl rfl) rfl rfl rfl ?_)
    refine ws (st_po (po_assign rfl) rfl rfl rfl ?_)
    refine s_nil ?_
    refine at_then_wp ?_
    refine r_ret ?_
    refine at_ret1 rfl (rv_tmp rfl) ⟨_, ⟨by simp only [IsC, hm, false_and, decide_false], rfl⟩, ?_⟩
    try dsimp only [List.cons_append, List.nil_append]
    exact ent

theorem where_Cell (w h x y : Int) : Spec PP 80 #[.int .i64 w, .int .i64 h, .int .i64 x, .int .i64 y] [] (fun v M => v = .int .i64 (cellN w h x y) ∧ M = []) := by
  refine spec_of (Go.Proofs.Tryz.func80) rfl rfl rfl (by exact fc_enters_80) ?_
  intro g F
  try dsimp only [List.cons_append, List.nil_append]
  by_cases hm : May w h
  · skip
    refine r_seq ?_
    refine r_reg ?_
    refine ws (st_po (po_assign rfl) rfl rfl rfl ?_)
    refine s_nil ?_
    refine at_then_wp ?_
    refine r_seq ?_
    refine r_seq ?_
    refine r_reg ?_
    refine ws (st_po (po_move rfl) rfl rfl rfl ?_)
    refine ws (st_po (po_move rfl) rfl rfl rfl ?_)
    refine ws (st_call (co_fn rfl rfl) (where_May w h) (by infer_instance) rfl rfl rfl ?_)
    rintro _ _ ⟨rfl, rfl⟩
    try dsimp only [List.cons_append, List.nil_append]
    refine ws (st_po (po_not rfl) rfl rfl rfl ?_)
    refine ws (st_po (po_bf (po_move rfl) (by simp [hm])) rfl rfl rfl ?_)
    refine ws (st_po (po_move rfl) rfl rfl rfl ?_)
    refine ws (st_po (po_lt rfl rfl) rfl rfl rfl ?_)
    refine ws (st_po (po_pick_f rfl rfl) rfl rfl rfl ?_)
    by_cases hx : x < 0
    · skip
      refine ws (st_po (po_bt (po_move rfl) (decide_eq_true hx)) rfl rfl rfl ?_)
      refine ws (st_no rfl rfl rfl ?_)
      refine ws (st_no rfl rfl rfl ?_)
      refine ws (st_no rfl rfl rfl ?_)
      refine ws (st_po (po_pick_t rfl rfl) rfl rfl rfl ?_)
      refine ws (st_po (po_move rfl) rfl rfl rfl ?_)
      refine ws (st_no rfl rfl rfl ?_)
      refine ws (st_no rfl rfl rfl ?_)
      refine ws (st_po (po_pick_t rfl rfl) rfl rfl rfl ?_)
      refine ws (st_po (po_move rfl) rfl rfl rfl ?_)
      refine ws (st_no rfl rfl rfl ?_)
      refine ws (st_no rfl rfl rfl ?_)
      refine ws (st_no rfl rfl rfl ?_)
      refine ws (st_po (po_pick_t rfl rfl) rfl rfl rfl ?_)
      refine s_nil ?_
      refine at_then_wp ?_
      refine r_cond_t rfl rfl ?_
      refine r_seq ?_
      refine r_reg ?_
      refine ws (st_po (po_assign rfl) rfl rfl rfl ?_)
      refine s_nil ?_
      refine at_then_wp ?_
      refine r_ret ?_
      refine at_then_ret ?_
      refine at_ret1 rfl (rv_tmp rfl) ⟨_, ⟨by rw [cellN, if_neg (by omega)], rfl⟩, ?_⟩
      try dsimp only [List.cons_append, List.nil_append]
      exact ent
    · skip
      refine ws (st_po (po_bf (po_move rfl) (decide_eq_false hx)) rfl rfl rfl ?_)
      refine ws (st_po (po_move rfl) rfl rfl rfl ?_)
      refine ws (st_po (po_move rfl) rfl rfl rfl ?_)
      refine ws (st_po (po_ge rfl rfl) rfl rfl rfl ?_)
      refine ws (st_po (po_pick_f rfl rfl) rfl rfl rfl ?_)
      by_cases hx2 : w ≤ x
      · skip
        refine ws (st_po (po_bt (po_move rfl) (decide_eq_true hx2)) rfl rfl rfl ?_)
        refine ws (st_no rfl rfl rfl ?_)
        refine ws (st_no rfl rfl rfl ?_)
        refine ws (st_po (po_pick_t rfl rfl) rfl rfl rfl ?_)
        refine ws (st_po (po_move rfl) rfl rfl rfl ?_)
        refine ws (st_no rfl rfl rfl ?_)
        refine ws (st_no rfl rfl rfl ?_)
        refine ws (st_no rfl rfl rfl ?_)
        refine ws (st_po (po_pick_t rfl rfl) rfl rfl rfl ?_)
        refine s_nil ?_
        refine at_then_wp ?_
        refine r_cond_t rfl rfl ?_
        refine r_seq ?_
        refine r_reg ?_
        refine ws (st_po (po_assign rfl) rfl rfl rfl ?_)
        refine s_nil ?_
        refine at_then_wp ?_
        refine r_ret ?_
        refine at_then_ret ?_
        refine at_ret1 rfl (rv_tmp rfl) ⟨_, ⟨by rw [cellN, if_neg (by omega)], rfl⟩, ?_⟩
        try dsimp only [List.cons_append, List.nil_append]
        exact ent
      · skip
        refine ws (st_po (po_bf (po_move rfl) (decide_eq_false hx2)) rfl rfl rfl ?_)
        refine ws (st_po (po_move rfl) rfl rfl rfl ?_)
        refine ws (st_po (po_lt rfl rfl) rfl rfl rfl ?_)
        refine ws (st_po (po_pick_f rfl rfl) rfl rfl rfl ?_)
        by_cases hy : y < 0
        · skip
          refine ws (st_po (po_bt (po_move rfl) (decide_eq_true hy)) rfl rfl rfl ?_)
          refine ws (st_no rfl rfl rfl ?_)
          refine ws (st_no rfl rfl rfl ?_)
          refine ws (st_no rfl rfl rfl ?_)
          refine ws (st_po (po_pick_t rfl rfl) rfl rfl rfl ?_)
          refine s_nil ?_
          refine at_then_wp ?_
          refine r_cond_t rfl rfl ?_
          refine r_seq ?_
          refine r_reg ?_
          refine ws (st_po (po_assign rfl) rfl rfl rfl ?_)
          refine s_nil ?_
          refine at_then_wp ?_
          refine r_ret ?_
          refine at_then_ret ?_
          refine at_ret1 rfl (rv_tmp rfl) ⟨_, ⟨by rw [cellN, if_neg (by omega)], rfl⟩, ?_⟩
          try dsimp only [List.cons_append, List.nil_append]
          exact ent
        · skip
          refine ws (st_po (po_bf (po_move rfl) (decide_eq_false hy)) rfl rfl rfl ?_)
          refine ws (st_po (po_move rfl) rfl rfl rfl ?_)
          refine ws (st_po (po_move rfl) rfl rfl rfl ?_)
          refine ws (st_po (po_ge rfl rfl) rfl rfl rfl ?_)
          refine ws (st_po (po_pick_f rfl rfl) rfl rfl rfl ?_)
          refine s_nil ?_
          refine at_then_wp ?_
          first | refine r_cond_not rfl ?_ ?_ | refine r_cond_dec rfl ?_ ?_ | refine r_cond rfl ?_ ?_
          · intro hy2
            refine r_seq ?_
            refine r_reg ?_
            refine ws (st_po (po_assign rfl) rfl rfl rfl ?_)
            refine s_nil ?_
            refine at_then_wp ?_
            refine r_ret ?_
            refine at_then_ret ?_
            refine at_ret1 rfl (rv_tmp rfl) ⟨_, ⟨by rw [cellN, if_neg (by omega)], rfl⟩, ?_⟩
            try dsimp only [List.cons_append, List.nil_append]
            exact ent
          · intro hy2
            have hb := mul_1k (a := y) (b := w) (by omega) (by omega) (by omega) (by omega)
            refine r_skip ?_
            refine at_then_wp ?_
            refine r_seq ?_
            refine r_reg ?_
            refine ws (st_po (po_move rfl) rfl rfl rfl ?_)
            refine ws (st_po (po_move rfl) rfl rfl rfl ?_)
            refine ws (st_po (po_mul' rfl rfl (by omega) (by omega)) rfl rfl rfl ?_)
            refine ws (st_po (po_move rfl) rfl rfl rfl ?_)
            refine ws (st_po (po_add' rfl rfl (by omega) (by omega)) rfl rfl rfl ?_)
            refine ws (st_po (po_assign rfl) rfl rfl rfl ?_)
            refine s_nil ?_
            refine at_then_wp ?_
            refine r_ret ?_
            refine at_ret1 rfl (rv_tmp rfl) ⟨_, ⟨by rw [cellN, if_pos (by omega)], rfl⟩, ?_⟩
            try dsimp only [List.cons_append, List.nil_append]
            exact ent
  · skip
    refine r_seq ?_
    refine r_reg ?_
    refine ws (st_po (po_assign rfl) rfl rfl rfl ?_)
    refine s_nil ?_
    refine at_then_wp ?_
    refine r_seq ?_
    refine r_seq ?_
    refine r_reg ?_
    refine ws (st_po (po_move rfl) rfl rfl rfl ?_)
    refine ws (st_po (po_move rfl) rfl rfl rfl ?_)
    refine ws (st_call (co_fn rfl rfl) (where_May w h) (by infer_instance) rfl rfl rfl ?_)
    rintro _ _ ⟨rfl, rfl⟩
    try dsimp only [List.cons_append, List.nil_append]
    refine ws (st_po (po_not rfl) rfl rfl rfl ?_)
    refine ws (st_po (po_bt (po_move rfl) (by simp only [hm, decide_false, Bool.not_false])) rfl rfl rfl ?_)
    refine ws (st_no rfl rfl rfl ?_)
    refine ws (st_no rfl rfl rfl ?_)
    refine ws (st_po (po_pick_t rfl rfl) rfl rfl rfl ?_)
    refine ws (st_po (po_move rfl) rfl rfl rfl ?_)
    refine ws (st_no rfl rfl rfl ?_)
    refine ws (st_no rfl rfl rfl ?_)
    refine ws (st_no rfl rfl rfl ?_)
    refine ws (st_po (po_pick_t rfl rfl) rfl rfl rfl ?_)
    refine ws (st_po (po_move rfl) rfl rfl rfl ?_)
    refine ws (st_no rfl rfl rfl ?_)
    refine ws (st_no rfl rfl rfl ?_)
    refine ws (st_po (po_pick_t rfl rfl) rfl rfl rfl ?_)
    refine ws (st_po (po_move rfl) rfl rfl rfl ?_)
    refine ws (st_no rfl rfl rfl ?_)
    refine ws (st_no rfl rfl rfl ?_)
    refine ws (st_no rfl rfl rfl ?_)
    refine ws (st_po (po_pick_t rfl rfl) rfl rfl rfl ?_)
    refine s_nil ?_
    refine at_then_wp ?_
    refine r_cond_t rfl rfl ?_
    refine r_seq ?_
    refine r_reg ?_
    refine ws (st_po (po_assign rfl) rfl rfl rfl ?_)
    refine s_nil ?_
    refine at_then_wp ?_
    refine r_ret ?_
    refine at_then_ret ?_
    refine at_ret1 rfl (rv_tmp rfl) ⟨_, ⟨by rw [cellN, if_neg (fun k => hm k.1)], rfl⟩, ?_⟩
    try dsimp only [List.cons_append, List.nil_append]
    exact ent

theorem where_Place (w h c : Int) : Spec PP 72 #[.int .i64 w, .int .i64 h, .int .i64 c] [] (fun v M => v = (if IsC w h c then .tuple #[.int .i64 (c % w), .int .i64 (c / w)] else .tuple #[.int .i64 (-1), .int .i64 (-1)]) ∧ M = []) := by
  refine spec_of (Go.Proofs.Tryz.func72) rfl rfl rfl (by exact fc_enters_72) ?_
  intro g F
  try dsimp only [List.cons_append, List.nil_append]
  refine r_seq ?_
  refine r_reg ?_
  refine ws (st_po (po_assign rfl) rfl rfl rfl ?_)
  refine ws (st_po (po_assign rfl) rfl rfl rfl ?_)
  refine s_nil ?_
  refine at_then_wp ?_
  refine r_seq ?_
  refine r_seq ?_
  refine r_reg ?_
  refine ws (st_po (po_move rfl) rfl rfl rfl ?_)
  refine ws (st_po (po_move rfl) rfl rfl rfl ?_)
  refine ws (st_po (po_move rfl) rfl rfl rfl ?_)
  refine ws (st_call (co_fn rfl rfl) (where_is w h c) (by infer_instance) rfl rfl rfl ?_)
  rintro _ _ ⟨rfl, rfl⟩
  try dsimp only [List.cons_append, List.nil_append]
  refine ws (st_po (po_not rfl) rfl rfl rfl ?_)
  refine s_nil ?_
  refine at_then_wp ?_
  first | refine r_cond_not rfl ?_ ?_ | refine r_cond_dec rfl ?_ ?_ | refine r_cond rfl ?_ ?_
  · intro hc
    refine r_seq ?_
    refine r_reg ?_
    refine ws (st_po (po_assign rfl) rfl rfl rfl ?_)
    refine ws (st_po (po_assign rfl) rfl rfl rfl ?_)
    refine s_nil ?_
    refine at_then_wp ?_
    refine r_ret ?_
    refine at_then_ret ?_
    refine at_ret2 rfl (rv_tmp rfl) (rv_tmp rfl) ⟨_, ⟨by rw [if_neg hc], rfl⟩, ?_⟩
    try dsimp only [List.cons_append, List.nil_append]
    exact ent
  · intro hc
    have hb := may_mul hc.1
    refine r_skip ?_
    refine at_then_wp ?_
    refine r_seq ?_
    refine r_ord [] _ [(0, 1), (1, 1), (2, 1), (3, 1), (4, 1), (5, 1), (6, 1), (7, 1)] fc_mixed (by kernel_rfl) (fun _ h => h) ?_
    refine o_fr rfl (po_move rfl) rfl rfl rfl ?_
    refine o_fr rfl (po_move rfl) rfl rfl rfl ?_
    refine o_fr rfl (po_rem' rfl rfl (by omega) (by omega)) rfl rfl rfl ?_
    refine o_fr rfl (po_move rfl) rfl rfl rfl ?_
    refine o_fr rfl (po_move rfl) rfl rfl rfl ?_
    refine o_fr rfl (po_quo' rfl rfl (by omega) (by omega) (by omega)) rfl rfl rfl ?_
    refine o_fr rfl (po_assign rfl) rfl rfl rfl ?_
    refine o_fr rfl (po_assign rfl) rfl rfl rfl ?_
    refine o_nil ?_
    refine at_then_wp ?_
    refine r_ret ?_
    refine at_ret2 rfl (rv_tmp rfl) (rv_tmp rfl) ⟨_, ⟨by rw [if_pos hc], rfl⟩, ?_⟩
    try dsimp only [List.cons_append, List.nil_append]
    exact ent

theorem where_Sectors (w h : Int) : Spec PP 61 #[.int .i64 w, .int .i64 h] [] (fun v M => v = .tuple #[.int .i64 (secsN w h).1, .int .i64 (secsN w h).2] ∧ M = []) := by
  refine spec_of (Go.Proofs.Tryz.func61) rfl rfl rfl (by exact fc_enters_61) ?_
  intro g F
  try dsimp only [List.cons_append, List.nil_append]
  refine r_seq ?_
  refine r_reg ?_
  refine ws (st_po (po_assign rfl) rfl rfl rfl ?_)
  refine ws (st_po (po_assign rfl) rfl rfl rfl ?_)
  refine s_nil ?_
  refine at_then_wp ?_
  refine r_seq ?_
  refine r_seq ?_
  refine r_reg ?_
  refine ws (st_po (po_move rfl) rfl rfl rfl ?_)
  refine ws (st_po (po_move rfl) rfl rfl rfl ?_)
  refine ws (st_call (co_fn rfl rfl) (where_May w h) (by infer_instance) rfl rfl rfl ?_)
  rintro _ _ ⟨rfl, rfl⟩
  try dsimp only [List.cons_append, List.nil_append]
  refine ws (st_po (po_not rfl) rfl rfl rfl ?_)
  refine s_nil ?_
  refine at_then_wp ?_
  first | refine r_cond_not rfl ?_ ?_ | refine r_cond_dec rfl ?_ ?_ | refine r_cond rfl ?_ ?_
  · intro hm
    refine r_seq ?_
    refine r_reg ?_
    refine ws (st_po (po_assign rfl) rfl rfl rfl ?_)
    refine ws (st_po (po_assign rfl) rfl rfl rfl ?_)
    refine s_nil ?_
    refine at_then_wp ?_
    refine r_ret ?_
    refine at_then_ret ?_
    refine at_ret2 rfl (rv_tmp rfl) (rv_tmp rfl) ⟨_, ⟨by rw [secsN, if_neg hm], rfl⟩, ?_⟩
    try dsimp only [List.cons_append, List.nil_append]
    exact ent
  · intro hm
    refine r_skip ?_
    refine at_then_wp ?_
    refine r_seq ?_
    refine r_reg ?_
    refine ws (st_po (po_move rfl) rfl rfl rfl ?_)
    refine ws (st_po (po_add' rfl rfl (by omega) (by omega)) rfl rfl rfl ?_)
    refine ws (st_po (po_sub' rfl rfl (by omega) (by omega)) rfl rfl rfl ?_)
    refine ws (st_po (po_quo' rfl rfl (by omega) (by omega) (by omega)) rfl rfl rfl ?_)
    refine ws (st_po (po_move rfl) rfl rfl rfl ?_)
    refine ws (st_po (po_add' rfl rfl (by omega) (by omega)) rfl rfl rfl ?_)
    refine ws (st_po (po_sub' rfl rfl (by omega) (by omega)) rfl rfl rfl ?_)
    refine ws (st_po (po_quo' rfl rfl (by omega) (by omega) (by omega)) rfl rfl rfl ?_)
    refine ws (st_po (po_assign rfl) rfl rfl rfl ?_)
    refine ws (st_po (po_assign rfl) rfl rfl rfl ?_)
    refine s_nil ?_
    refine at_then_wp ?_
    refine r_ret ?_
    refine at_ret2 rfl (rv_tmp rfl) (rv_tmp rfl) ⟨_, ⟨by rw [secsN, if_pos hm, acrN, acrN, show w + 16 - 1 = w + 15 from by omega, show h + 16 - 1 = h + 15 from by omega], rfl⟩, ?_⟩
    try dsimp only [List.cons_append, List.nil_append]
    exact ent

theorem where_Sector (w h c : Int) : Spec PP 46 #[.int .i64 w, .int .i64 h, .int .i64 c] [] (fun v M => v = .int .i64 (sectorN w h c) ∧ M = []) := by
  refine spec_of (Go.Proofs.Tryz.func46) rfl rfl rfl (by exact fc_enters_46) ?_
  intro g F
  try dsimp only [List.cons_append, List.nil_append]
  by_cases hc : IsC w h c
  · skip
    refine r_seq ?_
    refine r_reg ?_
    refine ws (st_po (po_assign rfl) rfl rfl rfl ?_)
    refine s_nil ?_
    refine at_then_wp ?_
    refine r_seq ?_
    refine r_reg ?_
    refine ws (st_po (po_move rfl) rfl rfl rfl ?_)
    refine ws (st_po (po_move rfl) rfl rfl rfl ?_)
    refine ws (st_po (po_move rfl) rfl rfl rfl ?_)
    refine ws (st_call (co_fn rfl rfl) (where_Place w h c) (by infer_instance) rfl rfl rfl ?_)
    rintro _ _ ⟨rfl, rfl⟩
    try dsimp only [List.cons_append, List.nil_append]
    rw [if_pos hc]
    have hxy := isc_xy hc
    refine ws (st_po (po_move rfl) rfl rfl rfl ?_)
    refine ws (st_po (po_extract rfl rfl) rfl rfl rfl ?_)
    refine ws (st_po (po_extract rfl rfl) rfl rfl rfl ?_)
    refine ws (st_po (po_assign rfl) rfl rfl rfl ?_)
    refine ws (st_po (po_assign rfl) rfl rfl rfl ?_)
    refine s_nil ?_
    refine at_then_wp ?_
    refine r_seq ?_
    refine r_seq ?_
    refine r_reg ?_
    refine ws (st_po (po_move rfl) rfl rfl rfl ?_)
    refine ws (st_po (po_lt rfl rfl) rfl rfl rfl ?_)
    refine s_nil ?_
    refine at_then_wp ?_
    first | refine r_dec_f rfl (by omega) ?_ | refine r_nd_f rfl (by omega) ?_ | refine r_cond_f rfl (by omega) ?_
    refine r_skip ?_
    refine at_then_wp ?_
    refine r_seq ?_
    refine r_reg ?_
    refine ws (st_po (po_move rfl) rfl rfl rfl ?_)
    refine ws (st_po (po_move rfl) rfl rfl rfl ?_)
    refine ws (st_call (co_fn rfl rfl) (where_Sectors w h) (by infer_instance) rfl rfl rfl ?_)
    rintro _ _ ⟨rfl, rfl⟩
    try dsimp only [List.cons_append, List.nil_append]
    rw [secsN, if_pos hc.1]
    dsimp only
    have hb := mul_1k (a := c / w / 16) (b := acrN w) (by omega) (by omega) (by unfold acrN; omega) (by unfold acrN; omega)
    refine ws (st_po (po_move rfl) rfl rfl rfl ?_)
    refine ws (st_po (po_extract rfl rfl) rfl rfl rfl ?_)
    refine ws (st_po (po_extract rfl rfl) rfl rfl rfl ?_)
    refine ws (st_po (po_assign rfl) rfl rfl rfl ?_)
    refine ws (st_po (po_assign rfl) rfl rfl rfl ?_)
    refine s_nil ?_
    refine at_then_wp ?_
    refine r_seq ?_
    refine r_reg ?_
    refine ws (st_po (po_move rfl) rfl rfl rfl ?_)
    refine ws (st_po (po_quo' rfl rfl (by omega) (by omega) (by omega)) rfl rfl rfl ?_)
    refine ws (st_po (po_move rfl) rfl rfl rfl ?_)
    refine ws (st_po (po_mul' rfl rfl (by omega) (by omega)) rfl rfl rfl ?_)
    refine ws (st_po (po_move rfl) rfl rfl rfl ?_)
    refine ws (st_po (po_quo' rfl rfl (by omega) (by omega) (by omega)) rfl rfl rfl ?_)
    refine ws (st_po (po_add' rfl rfl (by omega) (by omega)) rfl rfl rfl ?_)
    refine ws (st_po (po_assign rfl) rfl rfl rfl ?_)
    refine s_nil ?_
    refine at_then_wp ?_
    refine r_ret ?_
    refine at_ret1 rfl (rv_tmp rfl) ⟨_, ⟨by rw [sectorN, if_pos hc], rfl⟩, ?_⟩
    try dsimp only [List.cons_append, List.nil_append]
    exact ent
  · skip
    refine r_seq ?_
    refine r_reg ?_
    refine ws (st_po (po_assign rfl) rfl rfl rfl ?_)
    refine s_nil ?_
    refine at_then_wp ?_
    refine r_seq ?_
    refine r_reg ?_
    refine ws (st_po (po_move rfl) rfl rfl rfl ?_)
    refine ws (st_po (po_move rfl) rfl rfl rfl ?_)
    refine ws (st_po (po_move rfl) rfl rfl rfl ?_)
    refine ws (st_call (co_fn rfl rfl) (where_Place w h c) (by infer_instance) rfl rfl rfl ?_)
    rintro _ _ ⟨rfl, rfl⟩
    try dsimp only [List.cons_append, List.nil_append]
    rw [if_neg hc]
    refine ws (st_po (po_move rfl) rfl rfl rfl ?_)
    refine ws (st_po (po_extract rfl rfl) rfl rfl rfl ?_)
    refine ws (st_po (po_extract rfl rfl) rfl rfl rfl ?_)
    refine ws (st_po (po_assign rfl) rfl rfl rfl ?_)
    refine ws (st_po (po_assign rfl) rfl rfl rfl ?_)
    refine s_nil ?_
    refine at_then_wp ?_
    refine r_seq ?_
    refine r_seq ?_
    refine r_reg ?_
    refine ws (st_po (po_move rfl) rfl rfl rfl ?_)
    refine ws (st_po (po_lt rfl rfl) rfl rfl rfl ?_)
    refine s_nil ?_
    refine at_then_wp ?_
    first | refine r_dec_t rfl (by omega) ?_ | refine r_nd_t rfl (by omega) ?_ | refine r_cond_t rfl (by omega) ?_
    refine r_seq ?_
    refine r_reg ?_
    refine ws (st_po (po_assign rfl) rfl rfl rfl ?_)
    refine s_nil ?_
    refine at_then_wp ?_
    refine r_ret ?_
    refine at_then_ret ?_
    refine at_ret1 rfl (rv_tmp rfl) ⟨_, ⟨by rw [sectorN, if_neg hc], rfl⟩, ?_⟩
    try dsimp only [List.cons_append, List.nil_append]
    exact ent

theorem where_corner (w h s : Int) : Spec PP 79 #[.int .i64 w, .int .i64 h, .int .i64 s] []
    (fun v M => v = (if IsS w h s then .tuple #[.int .i64 (s % acrN w * 16), .int .i64 (s / acrN w * 16), .bool true] else .tuple #[.int .i64 0, .int .i64 0, .bool false]) ∧ M = []) := by
  refine spec_of (Go.Proofs.Tryz.func79) rfl rfl rfl (by exact fc_enters_79) ?_
  intro g F
  try dsimp only [List.cons_append, List.nil_append]
  refine r_seq ?_
  refine r_reg ?_
  refine ws (st_po (po_assign rfl) rfl rfl rfl ?_)
  refine ws (st_po (po_assign rfl) rfl rfl rfl ?_)
  refine ws (st_po (po_assign rfl) rfl rfl rfl ?_)
  refine s_nil ?_
  refine at_then_wp ?_
  refine r_seq ?_
  refine r_reg ?_
  refine ws (st_po (po_move rfl) rfl rfl rfl ?_)
  refine ws (st_po (po_move rfl) rfl rfl rfl ?_)
  refine ws (st_call (co_fn rfl rfl) (where_Sectors w h) (by infer_instance) rfl rfl rfl ?_)
  rintro _ _ ⟨rfl, rfl⟩
  try dsimp only [List.cons_append, List.nil_append]
  refine ws (st_po (po_move rfl) rfl rfl rfl ?_)
  refine ws (st_po (po_extract rfl rfl) rfl rfl rfl ?_)
  refine ws (st_po (po_extract rfl rfl) rfl rfl rfl ?_)
  refine ws (st_po (po_assign rfl) rfl rfl rfl ?_)
  refine ws (st_po (po_assign rfl) rfl rfl rfl ?_)
  refine s_nil ?_
  refine at_then_wp ?_
  refine r_seq ?_
  refine r_seq ?_
  refine r_reg ?_
  refine ws (st_po (po_move rfl) rfl rfl rfl ?_)
  refine ws (st_po (po_lt rfl rfl) rfl rfl rfl ?_)
  by_cases h0 : s < 0
  · skip
    refine ws (st_po (po_bt (po_move rfl) (decide_eq_true h0)) rfl rfl rfl ?_)
    refine ws (st_no rfl rfl rfl ?_)
    refine ws (st_no rfl rfl rfl ?_)
    refine ws (st_no rfl rfl rfl ?_)
    refine ws (st_no rfl rfl rfl ?_)
    refine ws (st_no rfl rfl rfl ?_)
    refine ws (st_po (po_pick_t rfl rfl) rfl rfl rfl ?_)
    refine s_nil ?_
    refine at_then_wp ?_
    refine r_cond_t rfl rfl ?_
    refine r_seq ?_
    refine r_reg ?_
    refine ws (st_po (po_assign rfl) rfl rfl rfl ?_)
    refine ws (st_po (po_assign rfl) rfl rfl rfl ?_)
    refine ws (st_po (po_assign rfl) rfl rfl rfl ?_)
    refine s_nil ?_
    refine at_then_wp ?_
    refine r_ret ?_
    refine at_then_ret ?_
    refine at_ret3 rfl (rv_tmp rfl) (rv_tmp rfl) (rv_tmp rfl) ⟨_, ⟨by rw [if_neg (by omega)], rfl⟩, ?_⟩
    try dsimp only [List.cons_append, List.nil_append]
    exact ent
  · skip
    refine ws (st_po (po_bf (po_move rfl) (decide_eq_false h0)) rfl rfl rfl ?_)
    have hb : 0 ≤ (secsN w h).1 * (secsN w h).2 ∧ (secsN w h).1 * (secsN w h).2 ≤ 1048576 := secs_mul w h
    refine ws (st_po (po_move rfl) rfl rfl rfl ?_)
    refine ws (st_po (po_move rfl) rfl rfl rfl ?_)
    refine ws (st_po (po_move rfl) rfl rfl rfl ?_)
    refine ws (st_po (po_mul' rfl rfl (by omega) (by omega)) rfl rfl rfl ?_)
    refine ws (st_po (po_ge rfl rfl) rfl rfl rfl ?_)
    refine ws (st_po (po_pick_f rfl rfl) rfl rfl rfl ?_)
    refine s_nil ?_
    refine at_then_wp ?_
    first | refine r_cond_not rfl ?_ ?_ | refine r_cond_dec rfl ?_ ?_ | refine r_cond rfl ?_ ?_
    · intro h1
      refine r_seq ?_
      refine r_reg ?_
      refine ws (st_po (po_assign rfl) rfl rfl rfl ?_)
      refine ws (st_po (po_assign rfl) rfl rfl rfl ?_)
      refine ws (st_po (po_assign rfl) rfl rfl rfl ?_)
      refine s_nil ?_
      refine at_then_wp ?_
      refine r_ret ?_
      refine at_then_ret ?_
      refine at_ret3 rfl (rv_tmp rfl) (rv_tmp rfl) (rv_tmp rfl) ⟨_, ⟨by rw [if_neg (not_iss h1)], rfl⟩, ?_⟩
      try dsimp only [List.cons_append, List.nil_append]
      exact ent
    · intro h1
      have hs := iss_of h0 h1
      obtain ⟨hm, hs0, hs1⟩ := hs
      have ha := acr_pos hm
      rw [secsN, if_pos hm]
      have e1 := Int.emod_nonneg s (show acrN w ≠ 0 by omega)
      have e2 := Int.emod_lt_of_pos s (show 0 < acrN w by omega)
      have e3 := Int.ediv_nonneg hs0 (show 0 ≤ acrN w by omega)
      have e4 := Int.ediv_le_self (acrN w) hs0
      have e5 := mul_1k (a := acrN w) (b := acrN h) (by omega) (by omega) (by omega) (by omega)
      dsimp only
      refine r_skip ?_
      refine at_then_wp ?_
      refine r_seq ?_
      refine r_ord [] _ [(0, 1), (1, 1), (2, 1), (3, 1), (4, 1), (5, 1), (6, 1), (7, 1), (8, 1), (9, 1), (10, 1)] fc_mixed (by kernel_rfl) (fun _ h => h) ?_
      refine o_fr rfl (po_move rfl) rfl rfl rfl ?_
      refine o_fr rfl (po_move rfl) rfl rfl rfl ?_
      refine o_fr rfl (po_rem' rfl rfl (by omega) (by omega)) rfl rfl rfl ?_
      refine o_fr rfl (po_mul' rfl rfl (by omega) (by omega)) rfl rfl rfl ?_
      refine o_fr rfl (po_move rfl) rfl rfl rfl ?_
      refine o_fr rfl (po_move rfl) rfl rfl rfl ?_
      refine o_fr rfl (po_quo' rfl rfl (by omega) (by omega) (by omega)) rfl rfl rfl ?_
      refine o_fr rfl (po_mul' rfl rfl (by omega) (by omega)) rfl rfl rfl ?_
      refine o_fr rfl (po_assign rfl) rfl rfl rfl ?_
      refine o_fr rfl (po_assign rfl) rfl rfl rfl ?_
      refine o_fr rfl (po_assign rfl) rfl rfl rfl ?_
      refine o_nil ?_
      refine at_then_wp ?_
      refine r_ret ?_
      refine at_ret3 rfl (rv_tmp rfl) (rv_tmp rfl) (rv_tmp rfl) ⟨_, ⟨by rw [if_pos ⟨hm, hs0, hs1⟩], rfl⟩, ?_⟩
      try dsimp only [List.cons_append, List.nil_append]
      exact ent

theorem where_Size (w h s : Int) : Spec PP 49 #[.int .i64 w, .int .i64 h, .int .i64 s] [] (fun v M => v = .tuple #[.int .i64 (sizeN w h s).1, .int .i64 (sizeN w h s).2] ∧ M = []) := by
  refine spec_of (Go.Proofs.Tryz.func49) rfl rfl rfl (by exact fc_enters_49) ?_
  intro g F
  try dsimp only [List.cons_append, List.nil_append]
  by_cases hs : IsS w h s
  · skip
    refine r_seq ?_
    refine r_reg ?_
    refine ws (st_po (po_assign rfl) rfl rfl rfl ?_)
    refine ws (st_po (po_assign rfl) rfl rfl rfl ?_)
    refine s_nil ?_
    refine at_then_wp ?_
    refine r_seq ?_
    refine r_reg ?_
    refine ws (st_po (po_move rfl) rfl rfl rfl ?_)
    refine ws (st_po (po_move rfl) rfl rfl rfl ?_)
    refine ws (st_po (po_move rfl) rfl rfl rfl ?_)
    refine ws (st_call (co_fn rfl rfl) (where_corner w h s) (by infer_instance) rfl rfl rfl ?_)
    rintro _ _ ⟨rfl, rfl⟩
    try dsimp only [List.cons_append, List.nil_append]
    rw [if_pos hs]
    obtain ⟨hm, hs0, hs1⟩ := id hs
    have ha := acr_pos hm
    have hq := iss_xy hs
    refine ws (st_po (po_move rfl) rfl rfl rfl ?_)
    refine ws (st_po (po_extract rfl rfl) rfl rfl rfl ?_)
    refine ws (st_po (po_extract rfl rfl) rfl rfl rfl ?_)
    refine ws (st_po (po_extract rfl rfl) rfl rfl rfl ?_)
    refine ws (st_po (po_assign rfl) rfl rfl rfl ?_)
    refine ws (st_po (po_assign rfl) rfl rfl rfl ?_)
    refine ws (st_po (po_assign rfl) rfl rfl rfl ?_)
    refine s_nil ?_
    refine at_then_wp ?_
    refine r_seq ?_
    refine r_seq ?_
    refine r_reg ?_
    refine ws (st_po (po_move rfl) rfl rfl rfl ?_)
    refine ws (st_po (po_not rfl) rfl rfl rfl ?_)
    refine s_nil ?_
    refine at_then_wp ?_
    refine r_cond_f rfl (rfl) ?_
    refine r_skip ?_
    refine at_then_wp ?_
    refine r_seq ?_
    refine r_reg ?_
    refine ws (st_po (po_move rfl) rfl rfl rfl ?_)
    refine ws (st_po (po_move rfl) rfl rfl rfl ?_)
    refine ws (st_po (po_sub' rfl rfl (by omega) (by omega)) rfl rfl rfl ?_)
    refine ws (st_po (po_min rfl rfl) rfl rfl rfl ?_)
    refine ws (st_po (po_move rfl) rfl rfl rfl ?_)
    refine ws (st_po (po_move rfl) rfl rfl rfl ?_)
    refine ws (st_po (po_sub' rfl rfl (by omega) (by omega)) rfl rfl rfl ?_)
    refine ws (st_po (po_min rfl rfl) rfl rfl rfl ?_)
    refine ws (st_po (po_assign rfl) rfl rfl rfl ?_)
    refine ws (st_po (po_assign rfl) rfl rfl rfl ?_)
    refine s_nil ?_
    refine at_then_wp ?_
    refine r_ret ?_
    refine at_ret2 rfl (rv_tmp rfl) (rv_tmp rfl) ⟨_, ⟨by rw [sizeN, if_pos hs, min_ite, min_ite], rfl⟩, ?_⟩
    try dsimp only [List.cons_append, List.nil_append]
    exact ent
  · skip
    refine r_seq ?_
    refine r_reg ?_
    refine ws (st_po (po_assign rfl) rfl rfl rfl ?_)
    refine ws (st_po (po_assign rfl) rfl rfl rfl ?_)
    refine s_nil ?_
    refine at_then_wp ?_
    refine r_seq ?_
    refine r_reg ?_
    refine ws (st_po (po_move rfl) rfl rfl rfl ?_)
    refine ws (st_po (po_move rfl) rfl rfl rfl ?_)
    refine ws (st_po (po_move rfl) rfl rfl rfl ?_)
    refine ws (st_call (co_fn rfl rfl) (where_corner w h s) (by infer_instance) rfl rfl rfl ?_)
    rintro _ _ ⟨rfl, rfl⟩
    try dsimp only [List.cons_append, List.nil_append]
    rw [if_neg hs]
    refine ws (st_po (po_move rfl) rfl rfl rfl ?_)
    refine ws (st_po (po_extract rfl rfl) rfl rfl rfl ?_)
    refine ws (st_po (po_extract rfl rfl) rfl rfl rfl ?_)
    refine ws (st_po (po_extract rfl rfl) rfl rfl rfl ?_)
    refine ws (st_po (po_assign rfl) rfl rfl rfl ?_)
    refine ws (st_po (po_assign rfl) rfl rfl rfl ?_)
    refine ws (st_po (po_assign rfl) rfl rfl rfl ?_)
    refine s_nil ?_
    refine at_then_wp ?_
    refine r_seq ?_
    refine r_seq ?_
    refine r_reg ?_
    refine ws (st_po (po_move rfl) rfl rfl rfl ?_)
    refine ws (st_po (po_not rfl) rfl rfl rfl ?_)
    refine s_nil ?_
    refine at_then_wp ?_
    refine r_cond_t rfl (rfl) ?_
    refine r_seq ?_
    refine r_reg ?_
    refine ws (st_po (po_assign rfl) rfl rfl rfl ?_)
    refine ws (st_po (po_assign rfl) rfl rfl rfl ?_)
    refine s_nil ?_
    refine at_then_wp ?_
    refine r_ret ?_
    refine at_then_ret ?_
    refine at_ret2 rfl (rv_tmp rfl) (rv_tmp rfl) ⟨_, ⟨by rw [sizeN, if_neg hs], rfl⟩, ?_⟩
    try dsimp only [List.cons_append, List.nil_append]
    exact ent

theorem where_Local (w h c : Int) : Spec PP 43 #[.int .i64 w, .int .i64 h, .int .i64 c] [] (fun v M => v = .int .i64 (localN w h c) ∧ M = []) := by
  refine spec_of (Go.Proofs.Tryz.func43) rfl rfl rfl (by exact fc_enters_43) ?_
  intro g F
  try dsimp only [List.cons_append, List.nil_append]
  by_cases hc : IsC w h c
  · skip
    refine r_seq ?_
    refine r_reg ?_
    refine ws (st_po (po_assign rfl) rfl rfl rfl ?_)
    refine s_nil ?_
    refine at_then_wp ?_
    refine r_seq ?_
    refine r_reg ?_
    refine ws (st_po (po_move rfl) rfl rfl rfl ?_)
    refine ws (st_po (po_move rfl) rfl rfl rfl ?_)
    refine ws (st_po (po_move rfl) rfl rfl rfl ?_)
    refine ws (st_call (co_fn rfl rfl) (where_Place w h c) (by infer_instance) rfl rfl rfl ?_)
    rintro _ _ ⟨rfl, rfl⟩
    try dsimp only [List.cons_append, List.nil_append]
    rw [if_pos hc]
    have hxy := isc_xy hc
    refine ws (st_po (po_move rfl) rfl rfl rfl ?_)
    refine ws (st_po (po_extract rfl rfl) rfl rfl rfl ?_)
    refine ws (st_po (po_extract rfl rfl) rfl rfl rfl ?_)
    refine ws (st_po (po_assign rfl) rfl rfl rfl ?_)
    refine ws (st_po (po_assign rfl) rfl rfl rfl ?_)
    refine s_nil ?_
    refine at_then_wp ?_
    refine r_seq ?_
    refine r_seq ?_
    refine r_reg ?_
    refine ws (st_po (po_move rfl) rfl rfl rfl ?_)
    refine ws (st_po (po_lt rfl rfl) rfl rfl rfl ?_)
    refine s_nil ?_
    refine at_then_wp ?_
    first | refine r_dec_f rfl (by omega) ?_ | refine r_nd_f rfl (by omega) ?_ | refine r_cond_f rfl (by omega) ?_
    refine r_skip ?_
    refine at_then_wp ?_
    refine r_seq ?_
    refine r_reg ?_
    refine ws (st_po (po_move rfl) rfl rfl rfl ?_)
    refine ws (st_po (po_move rfl) rfl rfl rfl ?_)
    refine ws (st_po (po_move rfl) rfl rfl rfl ?_)
    refine ws (st_po (po_move rfl) rfl rfl rfl ?_)
    refine ws (st_po (po_move rfl) rfl rfl rfl ?_)
    refine ws (st_call (co_fn rfl rfl) (where_Sector w h c) (by infer_instance) rfl rfl rfl ?_)
    rintro _ _ ⟨rfl, rfl⟩
    try dsimp only [List.cons_append, List.nil_append]
    refine ws (st_call (co_fn rfl rfl) (where_Size w h (sectorN w h c)) (by infer_instance) rfl rfl rfl ?_)
    rintro _ _ ⟨rfl, rfl⟩
    try dsimp only [List.cons_append, List.nil_append]
    have hz := size_le w h (sectorN w h c)
    have hb := mul_1k (a := c / w % 16) (b := (sizeN w h (sectorN w h c)).1) (by omega) (by omega) (by omega) (by omega)
    refine ws (st_po (po_move rfl) rfl rfl rfl ?_)
    refine ws (st_po (po_extract rfl rfl) rfl rfl rfl ?_)
    refine ws (st_po (po_extract rfl rfl) rfl rfl rfl ?_)
    refine ws (st_po (po_assign rfl) rfl rfl rfl ?_)
    refine ws (st_po (po_assign rfl) rfl rfl rfl ?_)
    refine s_nil ?_
    refine at_then_wp ?_
    refine r_seq ?_
    refine r_reg ?_
    refine ws (st_po (po_move rfl) rfl rfl rfl ?_)
    refine ws (st_po (po_rem' rfl rfl (by omega) (by omega)) rfl rfl rfl ?_)
    refine ws (st_po (po_move rfl) rfl rfl rfl ?_)
    refine ws (st_po (po_mul' rfl rfl (by omega) (by omega)) rfl rfl rfl ?_)
    refine ws (st_po (po_move rfl) rfl rfl rfl ?_)
    refine ws (st_po (po_rem' rfl rfl (by omega) (by omega)) rfl rfl rfl ?_)
    refine ws (st_po (po_add' rfl rfl (by omega) (by omega)) rfl rfl rfl ?_)
    refine ws (st_po (po_assign rfl) rfl rfl rfl ?_)
    refine s_nil ?_
    refine at_then_wp ?_
    refine r_ret ?_
    refine at_ret1 rfl (rv_tmp rfl) ⟨_, ⟨by rw [localN, if_pos hc], rfl⟩, ?_⟩
    try dsimp only [List.cons_append, List.nil_append]
    exact ent
  · skip
    refine r_seq ?_
    refine r_reg ?_
    refine ws (st_po (po_assign rfl) rfl rfl rfl ?_)
    refine s_nil ?_
    refine at_then_wp ?_
    refine r_seq ?_
    refine r_reg ?_
    refine ws (st_po (po_move rfl) rfl rfl rfl ?_)
    refine ws (st_po (po_move rfl) rfl rfl rfl ?_)
    refine ws (st_po (po_move rfl) rfl rfl rfl ?_)
    refine ws (st_call (co_fn rfl rfl) (where_Place w h c) (by infer_instance) rfl rfl rfl ?_)
    rintro _ _ ⟨rfl, rfl⟩
    try dsimp only [List.cons_append, List.nil_append]
    rw [if_neg hc]
    refine ws (st_po (po_move rfl) rfl rfl rfl ?_)
    refine ws (st_po (po_extract rfl rfl) rfl rfl rfl ?_)
    refine ws (st_po (po_extract rfl rfl) rfl rfl rfl ?_)
    refine ws (st_po (po_assign rfl) rfl rfl rfl ?_)
    refine ws (st_po (po_assign rfl) rfl rfl rfl ?_)
    refine s_nil ?_
    refine at_then_wp ?_
    refine r_seq ?_
    refine r_seq ?_
    refine r_reg ?_
    refine ws (st_po (po_move rfl) rfl rfl rfl ?_)
    refine ws (st_po (po_lt rfl rfl) rfl rfl rfl ?_)
    refine s_nil ?_
    refine at_then_wp ?_
    first | refine r_dec_t rfl (by omega) ?_ | refine r_nd_t rfl (by omega) ?_ | refine r_cond_t rfl (by omega) ?_
    refine r_seq ?_
    refine r_reg ?_
    refine ws (st_po (po_assign rfl) rfl rfl rfl ?_)
    refine s_nil ?_
    refine at_then_wp ?_
    refine r_ret ?_
    refine at_then_ret ?_
    refine at_ret1 rfl (rv_tmp rfl) ⟨_, ⟨by rw [localN, if_neg hc], rfl⟩, ?_⟩
    try dsimp only [List.cons_append, List.nil_append]
    exact ent

theorem where_Global (w h s l : Int) : Spec PP 50 #[.int .i64 w, .int .i64 h, .int .i64 s, .int .i64 l] [] (fun v M => v = .int .i64 (globalN w h s l) ∧ M = []) := by
  refine spec_of (Go.Proofs.Tryz.func50) rfl rfl rfl (by exact fc_enters_50) ?_
  intro g F
  try dsimp only [List.cons_append, List.nil_append]
  by_cases hs : IsS w h s
  · skip
    refine r_seq ?_
    refine r_reg ?_
    refine ws (st_po (po_assign rfl) rfl rfl rfl ?_)
    refine s_nil ?_
    refine at_then_wp ?_
    refine r_seq ?_
    refine r_reg ?_
    refine ws (st_po (po_move rfl) rfl rfl rfl ?_)
    refine ws (st_po (po_move rfl) rfl rfl rfl ?_)
    refine ws (st_po (po_move rfl) rfl rfl rfl ?_)
    refine ws (st_call (co_fn rfl rfl) (where_corner w h s) (by infer_instance) rfl rfl rfl ?_)
    rintro _ _ ⟨rfl, rfl⟩
    try dsimp only [List.cons_append, List.nil_append]
    rw [if_pos hs]
    refine ws (st_po (po_move rfl) rfl rfl rfl ?_)
    refine ws (st_po (po_extract rfl rfl) rfl rfl rfl ?_)
    refine ws (st_po (po_extract rfl rfl) rfl rfl rfl ?_)
    refine ws (st_po (po_extract rfl rfl) rfl rfl rfl ?_)
    refine ws (st_po (po_assign rfl) rfl rfl rfl ?_)
    refine ws (st_po (po_assign rfl) rfl rfl rfl ?_)
    refine ws (st_po (po_assign rfl) rfl rfl rfl ?_)
    refine s_nil ?_
    refine at_then_wp ?_
    refine r_seq ?_
    refine r_reg ?_
    refine ws (st_po (po_move rfl) rfl rfl rfl ?_)
    refine ws (st_po (po_move rfl) rfl rfl rfl ?_)
    refine ws (st_po (po_move rfl) rfl rfl rfl ?_)
    refine ws (st_call (co_fn rfl rfl) (where_Size w h s) (by infer_instance) rfl rfl rfl ?_)
    rintro _ _ ⟨rfl, rfl⟩
    try dsimp only [List.cons_append, List.nil_append]
    have hz := size_le w h s
    have hb := mul_1k (a := (sizeN w h s).1) (b := (sizeN w h s).2) (by omega) (by omega) (by omega) (by omega)
    refine ws (st_po (po_move rfl) rfl rfl rfl ?_)
    refine ws (st_po (po_extract rfl rfl) rfl rfl rfl ?_)
    refine ws (st_po (po_extract rfl rfl) rfl rfl rfl ?_)
    refine ws (st_po (po_assign rfl) rfl rfl rfl ?_)
    refine ws (st_po (po_assign rfl) rfl rfl rfl ?_)
    refine s_nil ?_
    refine at_then_wp ?_
    refine r_seq ?_
    refine r_seq ?_
    refine r_reg ?_
    refine ws (st_po (po_move rfl) rfl rfl rfl ?_)
    refine ws (st_po (po_not rfl) rfl rfl rfl ?_)
    refine ws (st_po (po_bf (po_move rfl) (rfl)) rfl rfl rfl ?_)
    refine ws (st_po (po_move rfl) rfl rfl rfl ?_)
    refine ws (st_po (po_lt rfl rfl) rfl rfl rfl ?_)
    refine ws (st_po (po_pick_f rfl rfl) rfl rfl rfl ?_)
    by_cases h0 : l < 0
    · skip
      refine ws (st_po (po_bt (po_move rfl) (decide_eq_true h0)) rfl rfl rfl ?_)
      refine ws (st_no rfl rfl rfl ?_)
      refine ws (st_no rfl rfl rfl ?_)
      refine ws (st_no rfl rfl rfl ?_)
      refine ws (st_no rfl rfl rfl ?_)
      refine ws (st_no rfl rfl rfl ?_)
      refine ws (st_po (po_pick_t rfl rfl) rfl rfl rfl ?_)
      refine s_nil ?_
      refine at_then_wp ?_
      refine r_cond_t rfl rfl ?_
      refine r_seq ?_
      refine r_reg ?_
      refine ws (st_po (po_assign rfl) rfl rfl rfl ?_)
      refine s_nil ?_
      refine at_then_wp ?_
      refine r_ret ?_
      refine at_then_ret ?_
      refine at_ret1 rfl (rv_tmp rfl) ⟨_, ⟨by rw [globalN, if_neg (by omega)], rfl⟩, ?_⟩
      try dsimp only [List.cons_append, List.nil_append]
      exact ent
    · skip
      refine ws (st_po (po_bf (po_move rfl) (decide_eq_false h0)) rfl rfl rfl ?_)
      refine ws (st_po (po_move rfl) rfl rfl rfl ?_)
      refine ws (st_po (po_move rfl) rfl rfl rfl ?_)
      refine ws (st_po (po_move rfl) rfl rfl rfl ?_)
      refine ws (st_po (po_mul' rfl rfl (by omega) (by omega)) rfl rfl rfl ?_)
      refine ws (st_po (po_ge rfl rfl) rfl rfl rfl ?_)
      refine ws (st_po (po_pick_f rfl rfl) rfl rfl rfl ?_)
      refine s_nil ?_
      refine at_then_wp ?_
      first | refine r_cond_not rfl ?_ ?_ | refine r_cond_dec rfl ?_ ?_ | refine r_cond rfl ?_ ?_
      · intro h1
        refine r_seq ?_
        refine r_reg ?_
        refine ws (st_po (po_assign rfl) rfl rfl rfl ?_)
        refine s_nil ?_
        refine at_then_wp ?_
        refine r_ret ?_
        refine at_then_ret ?_
        refine at_ret1 rfl (rv_tmp rfl) ⟨_, ⟨by rw [globalN, if_neg (by omega)], rfl⟩, ?_⟩
        try dsimp only [List.cons_append, List.nil_append]
        exact ent
      · intro h1
        obtain ⟨hg1, hg2, hg3⟩ := global_xy hs (l := l) (by omega) (by omega)
        refine r_skip ?_
        refine at_then_wp ?_
        refine r_seq ?_
        refine r_ord [] _ [(0, 1), (1, 1), (2, 1), (3, 1), (4, 1), (5, 1), (6, 1), (7, 1), (8, 1), (9, 1), (10, 1), (11, 1), (12, 2), (13, 1)] fc_mixed (by kernel_rfl) (fun _ h => h) ?_
        refine o_fr rfl (po_move rfl) rfl rfl rfl ?_
        refine o_fr rfl (po_move rfl) rfl rfl rfl ?_
        refine o_fr rfl (po_move rfl) rfl rfl rfl ?_
        refine o_fr rfl (po_move rfl) rfl rfl rfl ?_
        refine o_fr rfl (po_move rfl) rfl rfl rfl ?_
        refine o_fr rfl (po_rem' rfl rfl (by omega) (by omega)) rfl rfl rfl ?_
        refine o_fr rfl (po_add' rfl rfl (by omega) (by omega)) rfl rfl rfl ?_
        refine o_fr rfl (po_move rfl) rfl rfl rfl ?_
        refine o_fr rfl (po_move rfl) rfl rfl rfl ?_
        refine o_fr rfl (po_move rfl) rfl rfl rfl ?_
        refine o_fr rfl (po_quo' rfl rfl (by omega) (by omega) (by omega)) rfl rfl rfl ?_
        refine o_fr rfl (po_add' rfl rfl (by omega) (by omega)) rfl rfl rfl ?_
        refine o_st rfl (st_call (co_fn rfl rfl) (where_Cell w h _ _) (by infer_instance) rfl rfl rfl ?_)
        rintro _ _ ⟨rfl, rfl⟩
        try dsimp only [List.cons_append, List.nil_append]
        refine ⟨fun _ => (by first | exact fun _ h => h | exact ent), ?_⟩
        refine o_fr rfl (po_assign rfl) rfl rfl rfl ?_
        refine o_nil ?_
        refine at_then_wp ?_
        refine r_ret ?_
        refine at_ret1 rfl (rv_tmp rfl) ⟨_, ⟨by rw [globalN, if_pos ⟨hs, by omega, by omega⟩, cellN, if_pos ⟨hs.1, hg1, hg2⟩], rfl⟩, ?_⟩
        try dsimp only [List.cons_append, List.nil_append]
        exact ent
  · skip
    refine r_seq ?_
    refine r_reg ?_
    refine ws (st_po (po_assign rfl) rfl rfl rfl ?_)
    refine s_nil ?_
    refine at_then_wp ?_
    refine r_seq ?_
    refine r_reg ?_
    refine ws (st_po (po_move rfl) rfl rfl rfl ?_)
    refine ws (st_po (po_move rfl) rfl rfl rfl ?_)
    refine ws (st_po (po_move rfl) rfl rfl rfl ?_)
    refine ws (st_call (co_fn rfl rfl) (where_corner w h s) (by infer_instance) rfl rfl rfl ?_)
    rintro _ _ ⟨rfl, rfl⟩
    try dsimp only [List.cons_append, List.nil_append]
    rw [if_neg hs]
    refine ws (st_po (po_move rfl) rfl rfl rfl ?_)
    refine ws (st_po (po_extract rfl rfl) rfl rfl rfl ?_)
    refine ws (st_po (po_extract rfl rfl) rfl rfl rfl ?_)
    refine ws (st_po (po_extract rfl rfl) rfl rfl rfl ?_)
    refine ws (st_po (po_assign rfl) rfl rfl rfl ?_)
    refine ws (st_po (po_assign rfl) rfl rfl rfl ?_)
    refine ws (st_po (po_assign rfl) rfl rfl rfl ?_)
    refine s_nil ?_
    refine at_then_wp ?_
    refine r_seq ?_
    refine r_reg ?_
    refine ws (st_po (po_move rfl) rfl rfl rfl ?_)
    refine ws (st_po (po_move rfl) rfl rfl rfl ?_)
    refine ws (st_po (po_move rfl) rfl rfl rfl ?_)
    refine ws (st_call (co_fn rfl rfl) (where_Size w h s) (by infer_instance) rfl rfl rfl ?_)
    rintro _ _ ⟨rfl, rfl⟩
    try dsimp only [List.cons_append, List.nil_append]
    refine ws (st_po (po_move rfl) rfl rfl rfl ?_)
    refine ws (st_po (po_extract rfl rfl) rfl rfl rfl ?_)
    refine ws (st_po (po_extract rfl rfl) rfl rfl rfl ?_)
    refine ws (st_po (po_assign rfl) rfl rfl rfl ?_)
    refine ws (st_po (po_assign rfl) rfl rfl rfl ?_)
    refine s_nil ?_
    refine at_then_wp ?_
    refine r_seq ?_
    refine r_seq ?_
    refine r_reg ?_
    refine ws (st_po (po_move rfl) rfl rfl rfl ?_)
    refine ws (st_po (po_not rfl) rfl rfl rfl ?_)
    refine ws (st_po (po_bt (po_move rfl) (rfl)) rfl rfl rfl ?_)
    refine ws (st_no rfl rfl rfl ?_)
    refine ws (st_no rfl rfl rfl ?_)
    refine ws (st_po (po_pick_t rfl rfl) rfl rfl rfl ?_)
    refine ws (st_po (po_move rfl) rfl rfl rfl ?_)
    refine ws (st_no rfl rfl rfl ?_)
    refine ws (st_no rfl rfl rfl ?_)
    refine ws (st_no rfl rfl rfl ?_)
    refine ws (st_no rfl rfl rfl ?_)
    refine ws (st_no rfl rfl rfl ?_)
    refine ws (st_po (po_pick_t rfl rfl) rfl rfl rfl ?_)
    refine s_nil ?_
    refine at_then_wp ?_
    refine r_cond_t rfl rfl ?_
    refine r_seq ?_
    refine r_reg ?_
    refine ws (st_po (po_assign rfl) rfl rfl rfl ?_)
    refine s_nil ?_
    refine at_then_wp ?_
    refine r_ret ?_
    refine at_then_ret ?_
    refine at_ret1 rfl (rv_tmp rfl) ⟨_, ⟨by rw [globalN, if_neg (fun k => hs k.1)], rfl⟩, ?_⟩
    try dsimp only [List.cons_append, List.nil_append]
    exact ent

theorem where_Step (w h c s : Int) : Spec PP 74 #[.int .i64 w, .int .i64 h, .int .i64 c, .int .i64 s] [] (fun v M => v = .int .i64 (stepN w h c s) ∧ M = []) := by
  refine spec_of (Go.Proofs.Tryz.func74) rfl rfl rfl (by exact fc_enters_74) ?_
  intro g F
  try dsimp only [List.cons_append, List.nil_append]
  by_cases hc : IsC w h c
  · skip
    refine r_seq ?_
    refine r_reg ?_
    refine ws (st_po (po_assign rfl) rfl rfl rfl ?_)
    refine s_nil ?_
    refine at_then_wp ?_
    refine r_seq ?_
    refine r_reg ?_
    refine ws (st_po (po_move rfl) rfl rfl rfl ?_)
    refine ws (st_po (po_move rfl) rfl rfl rfl ?_)
    refine ws (st_po (po_move rfl) rfl rfl rfl ?_)
    refine ws (st_call (co_fn rfl rfl) (where_Place w h c) (by infer_instance) rfl rfl rfl ?_)
    rintro _ _ ⟨rfl, rfl⟩
    try dsimp only [List.cons_append, List.nil_append]
    rw [if_pos hc]
    have hxy := isc_xy hc
    refine ws (st_po (po_move rfl) rfl rfl rfl ?_)
    refine ws (st_po (po_extract rfl rfl) rfl rfl rfl ?_)
    refine ws (st_po (po_extract rfl rfl) rfl rfl rfl ?_)
    refine ws (st_po (po_assign rfl) rfl rfl rfl ?_)
    refine ws (st_po (po_assign rfl) rfl rfl rfl ?_)
    refine s_nil ?_
    refine at_then_wp ?_
    refine r_seq ?_
    refine r_seq ?_
    refine r_reg ?_
    refine ws (st_po (po_move rfl) rfl rfl rfl ?_)
    refine ws (st_po (po_lt rfl rfl) rfl rfl rfl ?_)
    refine s_nil ?_
    refine at_then_wp ?_
    first | refine r_dec_f rfl (by omega) ?_ | refine r_nd_f rfl (by omega) ?_ | refine r_cond_f rfl (by omega) ?_
    refine r_skip ?_
    refine at_then_wp ?_
    refine r_seq ?_
    refine r_reg ?_
    refine ws (st_po (po_assign rfl) rfl rfl rfl ?_)
    refine s_nil ?_
    refine at_then_wp ?_
    refine r_seq ?_
    refine r_seq ?_
    refine r_reg ?_
    refine ws (st_po (po_move rfl) rfl rfl rfl ?_)
    refine s_nil ?_
    refine at_then_wp ?_
    refine r_block ?_
    refine r_seq ?_
    refine r_block ?_
    refine r_seq ?_
    refine r_block ?_
    refine r_seq ?_
    refine r_block ?_
    refine r_seq ?_
    refine r_block ?_
    refine r_seq ?_
    refine r_block ?_
    refine r_seq ?_
    refine r_block ?_
    refine r_seq ?_
    refine r_seq ?_
    refine r_seq ?_
    refine r_reg ?_
    refine ws (st_po (po_eq rfl rfl) rfl rfl rfl ?_)
    refine ws (st_po (po_assign rfl) rfl rfl rfl ?_)
    refine s_nil ?_
    refine at_then_wp ?_
    first | refine r_cond_not rfl ?_ ?_ | refine r_cond_dec rfl ?_ ?_ | refine r_cond rfl ?_ ?_
    · intro e0
      refine r_exit ?_
      refine at_then_exit ?_
      refine at_then_exit ?_
      refine at_block_here ?_
      refine at_then_wp ?_
      refine r_reg ?_
      refine ws (st_po (po_assign rfl) rfl rfl rfl ?_)
      refine s_nil ?_
      refine at_block_normal ?_
      refine at_then_wp ?_
      refine r_seq ?_
      refine r_reg ?_
      refine ws (st_po (po_move rfl) rfl rfl rfl ?_)
      refine ws (st_po (po_move rfl) rfl rfl rfl ?_)
      refine ws (st_po (po_add' rfl rfl (by omega) (by omega)) rfl rfl rfl ?_)
      refine ws (st_po (po_assign rfl) rfl rfl rfl ?_)
      refine s_nil ?_
      refine at_then_wp ?_
      refine r_exit ?_
      refine at_block_there rfl ?_
      refine at_then_exit ?_
      refine at_block_there rfl ?_
      refine at_then_exit ?_
      refine at_block_there rfl ?_
      refine at_then_exit ?_
      refine at_block_there rfl ?_
      refine at_then_exit ?_
      refine at_block_here ?_
      refine at_then_wp ?_
      refine r_seq ?_
      refine r_reg ?_
      refine ws (st_po (po_move rfl) rfl rfl rfl ?_)
      refine ws (st_po (po_move rfl) rfl rfl rfl ?_)
      refine ws (st_po (po_move rfl) rfl rfl rfl ?_)
      refine ws (st_po (po_move rfl) rfl rfl rfl ?_)
      refine ws (st_call (co_fn rfl rfl) (where_Cell w h _ _) (by infer_instance) rfl rfl rfl ?_)
      rintro _ _ ⟨rfl, rfl⟩
      try dsimp only [List.cons_append, List.nil_append]
      refine ws (st_po (po_assign rfl) rfl rfl rfl ?_)
      refine s_nil ?_
      refine at_then_wp ?_
      refine r_ret ?_
      refine at_ret1 rfl (rv_tmp rfl) ⟨_, ⟨by rw [stepN, if_pos hc, if_pos e0]; rfl, rfl⟩, ?_⟩
      try dsimp only [List.cons_append, List.nil_append]
      exact ent
    · intro e0
      refine r_skip ?_
      refine at_then_wp ?_
      refine r_seq ?_
      refine r_seq ?_
      refine r_reg ?_
      refine ws (st_po (po_eq rfl rfl) rfl rfl rfl ?_)
      refine ws (st_po (po_assign rfl) rfl rfl rfl ?_)
      refine s_nil ?_
      refine at_then_wp ?_
      first | refine r_cond_not rfl ?_ ?_ | refine r_cond_dec rfl ?_ ?_ | refine r_cond rfl ?_ ?_
      · intro e2
        refine r_exit ?_
        refine at_then_exit ?_
        refine at_then_exit ?_
        refine at_block_there rfl ?_
        refine at_then_exit ?_
        refine at_block_here ?_
        refine at_then_wp ?_
        refine r_seq ?_
        refine r_reg ?_
        refine ws (st_po (po_move rfl) rfl rfl rfl ?_)
        refine ws (st_po (po_move rfl) rfl rfl rfl ?_)
        refine ws (st_po (po_add' rfl rfl (by omega) (by omega)) rfl rfl rfl ?_)
        refine ws (st_po (po_assign rfl) rfl rfl rfl ?_)
        refine s_nil ?_
        refine at_then_wp ?_
        refine r_exit ?_
        refine at_block_there rfl ?_
        refine at_then_exit ?_
        refine at_block_there rfl ?_
        refine at_then_exit ?_
        refine at_block_there rfl ?_
        refine at_then_exit ?_
        refine at_block_there rfl ?_
        refine at_then_exit ?_
        refine at_block_here ?_
        refine at_then_wp ?_
        refine r_seq ?_
        refine r_reg ?_
        refine ws (st_po (po_move rfl) rfl rfl rfl ?_)
        refine ws (st_po (po_move rfl) rfl rfl rfl ?_)
        refine ws (st_po (po_move rfl) rfl rfl rfl ?_)
        refine ws (st_po (po_move rfl) rfl rfl rfl ?_)
        refine ws (st_call (co_fn rfl rfl) (where_Cell w h _ _) (by infer_instance) rfl rfl rfl ?_)
        rintro _ _ ⟨rfl, rfl⟩
        try dsimp only [List.cons_append, List.nil_append]
        refine ws (st_po (po_assign rfl) rfl rfl rfl ?_)
        refine s_nil ?_
        refine at_then_wp ?_
        refine r_ret ?_
        refine at_ret1 rfl (rv_tmp rfl) ⟨_, ⟨by rw [stepN, if_pos hc, if_neg e0, if_neg (by omega), if_pos e2], rfl⟩, ?_⟩
        try dsimp only [List.cons_append, List.nil_append]
        exact ent
      · intro e2
        refine r_skip ?_
        refine at_then_wp ?_
        refine r_seq ?_
        refine r_seq ?_
        refine r_reg ?_
        refine ws (st_po (po_eq rfl rfl) rfl rfl rfl ?_)
        refine ws (st_po (po_assign rfl) rfl rfl rfl ?_)
        refine s_nil ?_
        refine at_then_wp ?_
        first | refine r_cond_not rfl ?_ ?_ | refine r_cond_dec rfl ?_ ?_ | refine r_cond rfl ?_ ?_
        · intro e3
          refine r_exit ?_
          refine at_then_exit ?_
          refine at_then_exit ?_
          refine at_block_there rfl ?_
          refine at_then_exit ?_
          refine at_block_there rfl ?_
          refine at_then_exit ?_
          refine at_block_here ?_
          refine at_then_wp ?_
          refine r_reg ?_
          refine ws (st_po (po_assign rfl) rfl rfl rfl ?_)
          refine s_nil ?_
          refine at_block_normal ?_
          refine at_then_wp ?_
          refine r_seq ?_
          refine r_reg ?_
          refine ws (st_po (po_move rfl) rfl rfl rfl ?_)
          refine ws (st_po (po_move rfl) rfl rfl rfl ?_)
          refine ws (st_po (po_add' rfl rfl (by omega) (by omega)) rfl rfl rfl ?_)
          refine ws (st_po (po_assign rfl) rfl rfl rfl ?_)
          refine s_nil ?_
          refine at_then_wp ?_
          refine r_exit ?_
          refine at_block_there rfl ?_
          refine at_then_exit ?_
          refine at_block_there rfl ?_
          refine at_then_exit ?_
          refine at_block_here ?_
          refine at_then_wp ?_
          refine r_seq ?_
          refine r_reg ?_
          refine ws (st_po (po_move rfl) rfl rfl rfl ?_)
          refine ws (st_po (po_move rfl) rfl rfl rfl ?_)
          refine ws (st_po (po_move rfl) rfl rfl rfl ?_)
          refine ws (st_po (po_move rfl) rfl rfl rfl ?_)
          refine ws (st_call (co_fn rfl rfl) (where_Cell w h _ _) (by infer_instance) rfl rfl rfl ?_)
          rintro _ _ ⟨rfl, rfl⟩
          try dsimp only [List.cons_append, List.nil_append]
          refine ws (st_po (po_assign rfl) rfl rfl rfl ?_)
          refine s_nil ?_
          refine at_then_wp ?_
          refine r_ret ?_
          refine at_ret1 rfl (rv_tmp rfl) ⟨_, ⟨by rw [stepN, if_pos hc, if_neg e0, if_neg (by omega), if_neg e2, if_pos e3]; rfl, rfl⟩, ?_⟩
          try dsimp only [List.cons_append, List.nil_append]
          exact ent
        · intro e3
          refine r_skip ?_
          refine at_then_wp ?_
          refine r_seq ?_
          refine r_seq ?_
          refine r_reg ?_
          refine ws (st_po (po_eq rfl rfl) rfl rfl rfl ?_)
          refine ws (st_po (po_assign rfl) rfl rfl rfl ?_)
          refine s_nil ?_
          refine at_then_wp ?_
          first | refine r_cond_not rfl ?_ ?_ | refine r_cond_dec rfl ?_ ?_ | refine r_cond rfl ?_ ?_
          · intro e1
            refine r_exit ?_
            refine at_then_exit ?_
            refine at_then_exit ?_
            refine at_block_there rfl ?_
            refine at_then_exit ?_
            refine at_block_there rfl ?_
            refine at_then_exit ?_
            refine at_block_there rfl ?_
            refine at_then_exit ?_
            refine at_block_here ?_
            refine at_then_wp ?_
            refine r_seq ?_
            refine r_reg ?_
            refine ws (st_po (po_move rfl) rfl rfl rfl ?_)
            refine ws (st_po (po_move rfl) rfl rfl rfl ?_)
            refine ws (st_po (po_add' rfl rfl (by omega) (by omega)) rfl rfl rfl ?_)
            refine ws (st_po (po_assign rfl) rfl rfl rfl ?_)
            refine s_nil ?_
            refine at_then_wp ?_
            refine r_exit ?_
            refine at_block_there rfl ?_
            refine at_then_exit ?_
            refine at_block_there rfl ?_
            refine at_then_exit ?_
            refine at_block_here ?_
            refine at_then_wp ?_
            refine r_seq ?_
            refine r_reg ?_
            refine ws (st_po (po_move rfl) rfl rfl rfl ?_)
            refine ws (st_po (po_move rfl) rfl rfl rfl ?_)
            refine ws (st_po (po_move rfl) rfl rfl rfl ?_)
            refine ws (st_po (po_move rfl) rfl rfl rfl ?_)
            refine ws (st_call (co_fn rfl rfl) (where_Cell w h _ _) (by infer_instance) rfl rfl rfl ?_)
            rintro _ _ ⟨rfl, rfl⟩
            try dsimp only [List.cons_append, List.nil_append]
            refine ws (st_po (po_assign rfl) rfl rfl rfl ?_)
            refine s_nil ?_
            refine at_then_wp ?_
            refine r_ret ?_
            refine at_ret1 rfl (rv_tmp rfl) ⟨_, ⟨by rw [stepN, if_pos hc, if_neg e0, if_pos e1], rfl⟩, ?_⟩
            try dsimp only [List.cons_append, List.nil_append]
            exact ent
          · intro e1
            refine r_skip ?_
            refine at_then_wp ?_
            refine r_seq ?_
            refine r_reg ?_
            refine ws (st_po (po_eq rfl rfl) rfl rfl rfl ?_)
            refine ws (st_po (po_assign rfl) rfl rfl rfl ?_)
            refine s_nil ?_
            refine at_then_wp ?_
            first | refine r_cond_not rfl ?_ ?_ | refine r_cond_dec rfl ?_ ?_ | refine r_cond rfl ?_ ?_
            · intro e4
              refine r_exit ?_
              refine at_then_exit ?_
              refine at_block_there rfl ?_
              refine at_then_exit ?_
              refine at_block_there rfl ?_
              refine at_then_exit ?_
              refine at_block_there rfl ?_
              refine at_then_exit ?_
              refine at_block_there rfl ?_
              refine at_then_exit ?_
              refine at_block_here ?_
              refine at_then_wp ?_
              refine r_exit ?_
              refine at_block_there rfl ?_
              refine at_then_exit ?_
              refine at_block_here ?_
              refine at_then_wp ?_
              refine r_seq ?_
              refine r_reg ?_
              refine ws (st_po (po_move rfl) rfl rfl rfl ?_)
              refine ws (st_po (po_move rfl) rfl rfl rfl ?_)
              refine ws (st_po (po_move rfl) rfl rfl rfl ?_)
              refine ws (st_po (po_move rfl) rfl rfl rfl ?_)
              refine ws (st_call (co_fn rfl rfl) (where_Cell w h _ _) (by infer_instance) rfl rfl rfl ?_)
              rintro _ _ ⟨rfl, rfl⟩
              try dsimp only [List.cons_append, List.nil_append]
              refine ws (st_po (po_assign rfl) rfl rfl rfl ?_)
              refine s_nil ?_
              refine at_then_wp ?_
              refine r_ret ?_
              refine at_ret1 rfl (rv_tmp rfl) ⟨_, ⟨by rw [stepN, if_pos hc, if_neg e0, if_neg e1, if_neg e2, if_neg e3, if_pos e4], rfl⟩, ?_⟩
              try dsimp only [List.cons_append, List.nil_append]
              exact ent
            · intro e4
              refine r_skip ?_
              refine at_then_wp ?_
              refine r_exit ?_
              refine at_block_there rfl ?_
              refine at_then_exit ?_
              refine at_block_there rfl ?_
              refine at_then_exit ?_
              refine at_block_there rfl ?_
              refine at_then_exit ?_
              refine at_block_there rfl ?_
              refine at_then_exit ?_
              refine at_block_there rfl ?_
              refine at_then_exit ?_
              refine at_block_here ?_
              refine at_then_wp ?_
              refine r_seq ?_
              refine r_seq ?_
              refine r_reg ?_
              refine ws (st_po (po_assign rfl) rfl rfl rfl ?_)
              refine s_nil ?_
              refine at_then_wp ?_
              refine r_ret ?_
              refine at_then_ret ?_
              refine at_block_ret ?_
              refine at_then_ret ?_
              refine at_ret1 rfl (rv_tmp rfl) ⟨_, ⟨by rw [stepN, if_pos hc, if_neg e0, if_neg e1, if_neg e2, if_neg e3, if_neg e4], rfl⟩, ?_⟩
              try dsimp only [List.cons_append, List.nil_append]
              exact ent
  · skip
    refine r_seq ?_
    refine r_reg ?_
    refine ws (st_po (po_assign rfl) rfl rfl rfl ?_)
    refine s_nil ?_
    refine at_then_wp ?_
    refine r_seq ?_
    refine r_reg ?_
    refine ws (st_po (po_move rfl) rfl rfl rfl ?_)
    refine ws (st_po (po_move rfl) rfl rfl rfl ?_)
    refine ws (st_po (po_move rfl) rfl rfl rfl ?_)
    refine ws (st_call (co_fn rfl rfl) (where_Place w h c) (by infer_instance) rfl rfl rfl ?_)
    rintro _ _ ⟨rfl, rfl⟩
    try dsimp only [List.cons_append, List.nil_append]
    rw [if_neg hc]
    refine ws (st_po (po_move rfl) rfl rfl rfl ?_)
    refine ws (st_po (po_extract rfl rfl) rfl rfl rfl ?_)
    refine ws (st_po (po_extract rfl rfl) rfl rfl rfl ?_)
    refine ws (st_po (po_assign rfl) rfl rfl rfl ?_)
    refine ws (st_po (po_assign rfl) rfl rfl rfl ?_)
    refine s_nil ?_
    refine at_then_wp ?_
    refine r_seq ?_
    refine r_seq ?_
    refine r_reg ?_
    refine ws (st_po (po_move rfl) rfl rfl rfl ?_)
    refine ws (st_po (po_lt rfl rfl) rfl rfl rfl ?_)
    refine s_nil ?_
    refine at_then_wp ?_
    first | refine r_dec_t rfl (by omega) ?_ | refine r_nd_t rfl (by omega) ?_ | refine r_cond_t rfl (by omega) ?_
    refine r_seq ?_
    refine r_reg ?_
    refine ws (st_po (po_assign rfl) rfl rfl rfl ?_)
    refine s_nil ?_
    refine at_then_wp ?_
    refine r_ret ?_
    refine at_then_ret ?_
    refine at_ret1 rfl (rv_tmp rfl) ⟨_, ⟨by rw [stepN, if_neg hc], rfl⟩, ?_⟩
    try dsimp only [List.cons_append, List.nil_append]
    exact ent
end Hd
end
section
namespace Hd
set_option maxRecDepth 100000
open Go

abbrev mapV (w h : Int) (cv : Value) : Value := .agg #[.int .i64 w, .int .i64 h, cv]
/-- 4.1 -/
def MayM (w h : Int) (c : List Int) : Prop := May w h ∧ (c.length : Int) = w * h ∧ (0 : Int) ∉ c
instance (w h : Int) (c : List Int) : Decidable (MayM w h c) := by unfold MayM; infer_instance

theorem atlas_May (w h : Int) (cv : Value) (c : List Int) (hl : c.length ≤ 2^30) : Spec PP 59 #[mapV w h cv] [Sl eB cv c] (fun v M => v = .bool (decide (MayM w h c)) ∧ M = [Sl eB cv c]) := by
  refine spec_of (Go.Proofs.Tryz.func59) rfl rfl rfl (by exact fc_enters_59) ?_
  intro g F
  try dsimp only [List.cons_append, List.nil_append, GridS.l, GridS.p]
  refine r_seq ?_
  refine r_reg ?_
  refine ws (st_xo (xo_box rfl rfl) rfl rfl rfl ?_)
  rintro _ _ ⟨b1, rfl, rfl⟩
  refine ws (st_po (po_assign rfl) rfl rfl rfl ?_)
  refine s_nil ?_
  refine at_then_wp ?_
  refine r_seq ?_
  refine r_reg ?_
  refine ws (st_po (po_faddr rfl (by exact fc_field_24_0_0)) rfl rfl rfl ?_)
  refine ws (st_po (po_load rfl (by exact fc_flat_3) (by rfl)) rfl rfl rfl ?_)
  refine ws (st_po (po_faddr rfl (by exact fc_field_24_1_1)) rfl rfl rfl ?_)
  refine ws (st_po (po_load rfl (by exact fc_flat_3) (by rfl)) rfl rfl rfl ?_)
  refine ws (st_call (co_fn rfl rfl) (where_May w h) (by infer_instance) rfl rfl rfl ?_)
  rintro v7 _ ⟨rfl, rfl⟩
  try dsimp only [List.cons_append, List.nil_append, GridS.l, GridS.p]
  by_cases h1 : May w h
  · skip
    refine ws (st_po (po_bt (po_move rfl) (decide_eq_true h1)) rfl rfl rfl ?_)
    have hb := may_mul h1
    refine ws (st_po (po_faddr rfl (by exact fc_field_24_2_2)) rfl rfl rfl ?_)
    refine ws (st_po (po_load rfl (by exact fc_flat_22) (by rfl)) rfl rfl rfl ?_)
    refine ws (st_po (po_len rfl (by exact fc_slice_22_5_1)) rfl rfl rfl ?_)
    refine ws (st_po (po_faddr rfl (by exact fc_field_24_0_0)) rfl rfl rfl ?_)
    refine ws (st_po (po_load rfl (by exact fc_flat_3) (by rfl)) rfl rfl rfl ?_)
    refine ws (st_po (po_faddr rfl (by exact fc_field_24_1_1)) rfl rfl rfl ?_)
    refine ws (st_po (po_load rfl (by exact fc_flat_3) (by rfl)) rfl rfl rfl ?_)
    refine ws (st_po (po_mul' rfl rfl (by omega) (by omega)) rfl rfl rfl ?_)
    refine ws (st_po (po_eq rfl rfl) rfl rfl rfl ?_)
    refine ws (st_po (po_pick_t rfl rfl) rfl rfl rfl ?_)
    by_cases h2 : (c.length : Int) = w * h
    · skip
      refine ws (st_po (po_bt (po_move rfl) (decide_eq_true h2)) rfl rfl rfl ?_)
      refine ws (st_po (po_faddr rfl (by exact fc_field_24_2_2)) rfl rfl rfl ?_)
      refine ws (st_po (po_load rfl (by exact fc_flat_22) (by rfl)) rfl rfl rfl ?_)
      refine ws (st_call (co_fn rfl rfl) (contains_B cv c 0 hl) (by infer_instance) rfl rfl rfl ?_)
      rintro v22 _ ⟨rfl, rfl⟩
      try dsimp only [List.cons_append, List.nil_append, GridS.l, GridS.p]
      refine ws (st_po (po_not rfl) rfl rfl rfl ?_)
      refine ws (st_po (po_pick_t rfl rfl) rfl rfl rfl ?_)
      refine ws (st_po (po_assign rfl) rfl rfl rfl ?_)
      refine s_nil ?_
      refine at_then_wp ?_
      refine r_ret ?_
      refine at_ret1 rfl (rv_tmp rfl) ⟨_, ⟨by simp [MayM, h1, h2], rfl⟩, ?_⟩
      try dsimp only [List.cons_append, List.nil_append, GridS.l, GridS.p]
      exact ent
    · skip
      refine ws (st_po (po_bf (po_move rfl) (decide_eq_false h2)) rfl rfl rfl ?_)
      refine ws (st_no rfl rfl rfl ?_)
      refine ws (st_no rfl rfl rfl ?_)
      refine ws (st_no rfl rfl rfl ?_)
      refine ws (st_no rfl rfl rfl ?_)
      refine ws (st_po (po_pick_f rfl rfl) rfl rfl rfl ?_)
      refine ws (st_po (po_assign rfl) rfl rfl rfl ?_)
      refine s_nil ?_
      refine at_then_wp ?_
      refine r_ret ?_
      refine at_ret1 rfl (rv_tmp rfl) ⟨_, ⟨by simp [MayM, h1, h2], rfl⟩, ?_⟩
      try dsimp only [List.cons_append, List.nil_append, GridS.l, GridS.p]
      exact ent
  · skip
    refine ws (st_po (po_bf (po_move rfl) (decide_eq_false h1)) rfl rfl rfl ?_)
    refine ws (st_no rfl rfl rfl ?_)
    refine ws (st_no rfl rfl rfl ?_)
    refine ws (st_no rfl rfl rfl ?_)
    refine ws (st_no rfl rfl rfl ?_)
    refine ws (st_no rfl rfl rfl ?_)
    refine ws (st_no rfl rfl rfl ?_)
    refine ws (st_no rfl rfl rfl ?_)
    refine ws (st_no rfl rfl rfl ?_)
    refine ws (st_no rfl rfl rfl ?_)
    refine ws (st_po (po_pick_f rfl rfl) rfl rfl rfl ?_)
    refine ws (st_po (po_move rfl) rfl rfl rfl ?_)
    refine ws (st_no rfl rfl rfl ?_)
    refine ws (st_no rfl rfl rfl ?_)
    refine ws (st_no rfl rfl rfl ?_)
    refine ws (st_no rfl rfl rfl ?_)
    refine ws (st_po (po_pick_f rfl rfl) rfl rfl rfl ?_)
    refine ws (st_po (po_assign rfl) rfl rfl rfl ?_)
    refine s_nil ?_
    refine at_then_wp ?_
    refine r_ret ?_
    refine at_ret1 rfl (rv_tmp rfl) ⟨_, ⟨by simp [MayM, h1], rfl⟩, ?_⟩
    try dsimp only [List.cons_append, List.nil_append, GridS.l, GridS.p]
    exact ent

def fill2 {α : Type} (a z : α) (n k : Nat) : List α := List.replicate k a ++ List.replicate (n - k) z
theorem fill2_0 {α : Type} (a z : α) (n : Nat) : List.replicate n z = fill2 a z n 0 := by simp [fill2]
theorem fill2_n {α : Type} (a z : α) (n : Nat) : fill2 a z n n = List.replicate n a := by simp [fill2]
theorem fill2_len {α : Type} (a z : α) {n k : Nat} (h : k ≤ n) : (fill2 a z n k).length = n := by simp [fill2]; omega
theorem fill2_set {α : Type} (a z : α) {k n : Nat} (h : k < n) : (fill2 a z n k).set k a = fill2 a z n (k + 1) := by
  unfold fill2
  rw [List.set_append_right _ _ (by simp), List.length_replicate, Nat.sub_self, show n - k = (n - (k + 1)) + 1 by omega, List.replicate_succ, List.set_cons_zero, List.replicate_succ']
  simp

/-- New, of a map that may be, behind an epoch that may be -/
theorem grid_New (w h ep : Int) (cv : Value) (c : List Int) (hm : MayM w h c) (h0 : 0 ≤ ep) (h1 : ep ≤ 4611686018427387904) :
    Spec PP 28 #[mapV w h cv, .int .i64 ep] [Sl eB cv c] (fun v M => ∃ s : GridS, v = s.p ∧ M = Sl eB cv c :: s.l ∧ s.w = w ∧ s.h = h ∧ s.c = c ∧ s.ep = ep + 1 ∧ s.vs = List.replicate ((secsN w h).1 * (secsN w h).2).toNat (ep + 1)) := by
  have hb := may_mul hm.1
  have hl : c.length ≤ 2^30 := by have := hm.2.1; omega
  refine spec_of (Go.Proofs.Tryz.func28) rfl rfl rfl (by exact fc_enters_28) ?_
  intro g F
  try dsimp only [List.cons_append, List.nil_append, GridS.l, GridS.p]
  refine r_seq ?_
  refine r_reg ?_
  refine ws (st_xo (xo_box rfl rfl) rfl rfl rfl ?_)
  rintro _ _ ⟨b2, rfl, rfl⟩
  refine ws (st_po (po_assign rfl) rfl rfl rfl ?_)
  refine s_nil ?_
  refine at_then_wp ?_
  refine r_seq ?_
  refine r_seq ?_
  refine r_reg ?_
  refine ws (st_po (po_loada rfl (by exact fc_agg_24_3) (by rfl)) rfl rfl rfl ?_)
  refine ws (st_call (co_fn rfl rfl) (atlas_May w h cv c hl) (by infer_instance) rfl rfl rfl ?_)
  rintro v10 _ ⟨rfl, rfl⟩
  try dsimp only [List.cons_append, List.nil_append, GridS.l, GridS.p]
  refine ws (st_po (po_not rfl) rfl rfl rfl ?_)
  refine ws (st_po (po_bf (po_move rfl) (by simp [hm])) rfl rfl rfl ?_)
  refine ws (st_po (po_move rfl) rfl rfl rfl ?_)
  refine ws (st_po (po_lt rfl rfl) rfl rfl rfl ?_)
  refine ws (st_po (po_pick_f rfl rfl) rfl rfl rfl ?_)
  refine ws (st_po (po_bf (po_move rfl) (decide_eq_false (by omega))) rfl rfl rfl ?_)
  refine ws (st_po (po_move rfl) rfl rfl rfl ?_)
  refine ws (st_po (po_gt rfl rfl) rfl rfl rfl ?_)
  refine ws (st_po (po_pick_f rfl rfl) rfl rfl rfl ?_)
  refine s_nil ?_
  refine at_then_wp ?_
  first | refine r_dec_f rfl (by omega) ?_ | refine r_nd_f rfl (by omega) ?_ | refine r_cond_f rfl (by omega) ?_
  refine r_skip ?_
  refine at_then_wp ?_
  refine r_seq ?_
  refine r_reg ?_
  refine ws (st_po (po_faddr rfl (by exact fc_field_24_2_2)) rfl rfl rfl ?_)
  refine ws (st_po (po_load rfl (by exact fc_flat_22) (by rfl)) rfl rfl rfl ?_)
  refine ws (st_call (co_fn rfl rfl) (clone_B cv c hl) (by infer_instance) rfl rfl rfl ?_)
  rintro v22 _ rfl
  try dsimp only [List.cons_append, List.nil_append, GridS.l, GridS.p]
  refine ws (st_po (po_faddr rfl (by exact fc_field_24_2_2)) rfl rfl rfl ?_)
  refine ws (st_so (so_store1 rfl rfl (by exact fc_flat_22) rfl) rfl rfl ?_)
  refine s_nil ?_
  refine at_then_wp ?_
  refine r_seq ?_
  refine r_reg ?_
  refine ws (st_po (po_faddr rfl (by exact fc_field_24_0_0)) rfl rfl rfl ?_)
  refine ws (st_po (po_load rfl (by exact fc_flat_3) (by rfl)) rfl rfl rfl ?_)
  refine ws (st_po (po_faddr rfl (by exact fc_field_24_1_1)) rfl rfl rfl ?_)
  refine ws (st_po (po_load rfl (by exact fc_flat_3) (by rfl)) rfl rfl rfl ?_)
  refine ws (st_call (co_fn rfl rfl) (where_Sectors w h) (by infer_instance) rfl rfl rfl ?_)
  rintro v29 _ ⟨rfl, rfl⟩
  try dsimp only [List.cons_append, List.nil_append, GridS.l, GridS.p]
  have hs := secs_mul w h
  refine ws (st_po (po_move rfl) rfl rfl rfl ?_)
  refine ws (st_po (po_extract rfl rfl) rfl rfl rfl ?_)
  refine ws (st_po (po_extract rfl rfl) rfl rfl rfl ?_)
  refine ws (st_po (po_assign rfl) rfl rfl rfl ?_)
  refine ws (st_po (po_assign rfl) rfl rfl rfl ?_)
  refine s_nil ?_
  refine at_then_wp ?_
  refine r_seq ?_
  refine r_ord [] _ [(0, 0), (1, 1), (2, 1), (3, 1), (4, 1), (5, 1), (6, 2), (7, 2), (8, 2), (9, 1)] fc_mixed (by kernel_rfl) (fun _ h => h) ?_
  refine o_rd rfl (po_loada rfl (by exact fc_agg_24_3) (by rfl)) (by first | exact fun _ h => h | exact ent) rfl rfl rfl ?_
  refine o_fr rfl (po_move rfl) rfl rfl rfl ?_
  refine o_fr rfl (po_add' rfl rfl (by omega) (by omega)) rfl rfl rfl ?_
  refine o_fr rfl (po_move rfl) rfl rfl rfl ?_
  refine o_fr rfl (po_move rfl) rfl rfl rfl ?_
  refine o_fr rfl (po_mul' rfl rfl (by omega) (by omega)) rfl rfl rfl ?_
  refine o_st rfl (st_xo (xo_make eL (0) rfl rfl (by exact fc_slice_79_2_1) (by exact fc_elem_2_1_8) (by exact fc_zero_2) rfl (by first | omega | (simp only [List.length_nil, List.length_cons, List.length_append, List.length_replicate, List.length_set, List.length_map, List.length_take, List.length_drop]; omega)) (by first | omega | (simp only [List.length_nil, List.length_cons, List.length_append, List.length_replicate, List.length_set, List.length_map, List.length_take, List.length_drop]; omega)) (by first | omega | (simp only [List.length_nil, List.length_cons, List.length_append, List.length_replicate, List.length_set, List.length_map, List.length_take, List.length_drop]; omega))) rfl rfl rfl ?_)
  rintro v38 _ rfl
  refine ⟨fun _ => (by first | exact fun _ h => h | exact ent), ?_⟩
  refine o_st rfl (st_po (po_build1 rfl (by exact fc_zero_81) (by exact fc_places_81_0_1_2) (by exact fc_info_81) rfl) rfl rfl rfl ?_)
  refine ⟨fun _ => (by first | exact fun _ h => h | exact ent), ?_⟩
  refine o_st rfl (st_xo (xo_box rfl rfl) rfl rfl rfl ?_)
  rintro _ _ ⟨b40, rfl, rfl⟩
  refine ⟨fun _ => (by first | exact fun _ h => h | exact ent), ?_⟩
  refine o_fr rfl (po_assign rfl) rfl rfl rfl ?_
  refine o_nil ?_
  refine at_then_wp ?_
  refine r_seq ?_
  refine r_seq ?_
  refine r_reg ?_
  refine ws (st_po (po_move rfl) rfl rfl rfl ?_)
  refine ws (st_po (po_nil rfl) rfl rfl rfl ?_)
  refine ws (st_po (po_faddr rfl (by exact fc_field_81_2_4)) rfl rfl rfl ?_)
  refine ws (st_po (po_load rfl (by exact fc_flat_79) (by rfl)) rfl rfl rfl ?_)
  refine ws (st_po (po_len rfl (by exact fc_slice_79_2_1)) rfl rfl rfl ?_)
  refine ws (st_po (po_move rfl) rfl rfl rfl ?_)
  refine s_nil ?_
  refine at_then_wp ?_
  refine r_block ?_
  simp only [List.length_replicate]
  rw [fill2_0 (ep + 1) 0]
  refine r_loop (S := Nat) (fun k => [(46, .int .i64 k)]) [(7, _), (45, _)] (fun k => [Blk b40 81 [.int .i64 w, .int .i64 h, v22, .int .i64 (ep + 1), v38], Sl eB v22 c, Sl eL v38 (fill2 (ep + 1) 0 ((secsN w h).1 * (secsN w h).2).toNat k), Sl eB cv c, F]) (fun k => k ≤ ((secsN w h).1 * (secsN w h).2).toNat) (fun k => ((secsN w h).1 * (secsN w h).2).toNat - k) (0) (And.intro rfl (And.intro rfl (trivial))) (And.intro rfl (trivial)) (by omega) ent ?_
  rintro k hk
  try dsimp only [List.cons_append, List.nil_append, GridS.l, GridS.p]
  refine r_seq ?_
  refine r_reg ?_
  refine ws (st_po (po_lt rfl rfl) rfl rfl rfl ?_)
  refine s_nil ?_
  refine at_then_wp ?_
  refine r_seq ?_
  first | refine r_cond_not rfl ?_ ?_ | refine r_cond_dec rfl ?_ ?_ | refine r_cond rfl ?_ ?_
  · intro hlt
    have hll := fill2_len (ep + 1) 0 hk
    refine r_skip ?_
    refine at_then_wp ?_
    refine r_seq ?_
    refine r_block ?_
    refine r_seq ?_
    refine r_reg ?_
    refine ws (st_po (po_move rfl) rfl rfl rfl ?_)
    refine ws (st_po (po_assign rfl) rfl rfl rfl ?_)
    refine s_nil ?_
    refine at_then_wp ?_
    refine r_ord [10] _ [(0, 1), (1, 1), (2, 1), (3, 0), (4, 1), (5, 1), (6, 1), (7, 1), (8, 0), (9, 0), (10, 2)] fc_mixed (by kernel_rfl) (fun _ h => h) ?_
    refine o_fr rfl (po_move rfl) rfl rfl rfl ?_
    refine o_fr rfl (po_nil rfl) rfl rfl rfl ?_
    refine o_fr rfl (po_faddr rfl (by exact fc_field_81_2_4)) rfl rfl rfl ?_
    refine o_rd rfl (po_load rfl (by exact fc_flat_79) (by rfl)) (by first | exact fun _ h => h | exact ent) rfl rfl rfl ?_
    refine o_fr rfl (po_move rfl) rfl rfl rfl ?_
    refine o_fr rfl (po_move rfl) rfl rfl rfl ?_
    refine o_fr rfl (po_nil rfl) rfl rfl rfl ?_
    refine o_fr rfl (po_faddr rfl (by exact fc_field_81_1_3)) rfl rfl rfl ?_
    refine o_rd rfl (po_load rfl (by exact fc_flat_2) (by rfl)) (by first | exact fun _ h => h | exact ent) rfl rfl rfl ?_
    refine o_rd rfl (po_iaddr rfl rfl (by exact fc_slice_79_2_1) (by first | omega | (simp only [List.length_nil, List.length_cons, List.length_append, List.length_replicate, List.length_set, List.length_map, List.length_take, List.length_drop]; omega)) (by first | omega | (simp only [List.length_nil, List.length_cons, List.length_append, List.length_replicate, List.length_set, List.length_map, List.length_take, List.length_drop]; omega))) (by first | exact fun _ h => h | exact ent) rfl rfl rfl ?_
    refine o_st rfl (st_so (so_store_sl rfl rfl (List.getElem?_eq_getElem (by first | omega | (simp only [List.length_nil, List.length_cons, List.length_append, List.length_replicate, List.length_set, List.length_map, List.length_take, List.length_drop]; omega))) (by exact fc_flat_2) (by decide) (by rfl) (by rfl)) rfl rfl ?_)
    refine ⟨fun h => late_no h (by kernel_rfl), ?_⟩
    refine o_nil ?_
    refine at_block_normal ?_
    refine at_then_wp ?_
    refine r_reg ?_
    refine ws (st_po (po_add' rfl rfl (by omega) (by omega)) rfl rfl rfl ?_)
    refine ws (st_po (po_move rfl) rfl rfl rfl ?_)
    refine s_nil ?_
    simp only [Int.toNat_natCast]
    rw [fill2_set _ _ (by omega)]
    exact at_again (k + 1) (And.intro rfl (trivial)) (And.intro rfl (And.intro rfl (trivial))) (by omega) (by omega) ent
  · intro hlt
    refine r_exit ?_
    refine at_then_exit ?_
    refine at_then_exit ?_
    refine at_block_here ?_
    refine at_then_wp ?_
    refine r_seq ?_
    refine r_reg ?_
    refine ws (st_po (po_move rfl) rfl rfl rfl ?_)
    refine ws (st_po (po_assign rfl) rfl rfl rfl ?_)
    refine s_nil ?_
    refine at_then_wp ?_
    refine r_ret ?_
    rw [show k = ((secsN w h).1 * (secsN w h).2).toNat by omega, fill2_n]
    refine at_ret1 rfl (rv_tmp rfl) ⟨_, ⟨⟨b40, w, h, v22, c, ep + 1, v38, _⟩, rfl, rfl, rfl, rfl, rfl, rfl, rfl⟩, ?_⟩
    try dsimp only [List.cons_append, List.nil_append, GridS.l, GridS.p]
    exact ent

theorem grid_Size (s : GridS) : Spec PP 38 #[s.p] s.l (fun v M => v = .tuple #[.int .i64 s.w, .int .i64 s.h] ∧ M = s.l) := by
  refine spec_of (Go.Proofs.Tryz.func38) rfl rfl rfl (by exact fc_enters_38) ?_
  intro g F
  try dsimp only [List.cons_append, List.nil_append, GridS.l, GridS.p]
  refine r_seq ?_
  refine r_reg ?_
  refine ws (st_po (po_assign rfl) rfl rfl rfl ?_)
  refine ws (st_po (po_assign rfl) rfl rfl rfl ?_)
  refine s_nil ?_
  refine at_then_wp ?_
  refine r_seq ?_
  refine r_seq ?_
  refine r_reg ?_
  refine ws (st_po (po_move rfl) rfl rfl rfl ?_)
  refine ws (st_po (po_peq rfl rfl (by exact fc_ptr_27)) rfl rfl rfl ?_)
  refine s_nil ?_
  refine at_then_wp ?_
  refine r_cond_f rfl (rfl) ?_
  refine r_skip ?_
  refine at_then_wp ?_
  refine r_seq ?_
  refine r_ord [] _ [(0, 1), (1, 1), (2, 1), (3, 1), (4, 0), (5, 1), (6, 1), (7, 1), (8, 1), (9, 0), (10, 1), (11, 1)] fc_mixed (by kernel_rfl) (fun _ h => h) ?_
  refine o_fr rfl (po_move rfl) rfl rfl rfl ?_
  refine o_fr rfl (po_nil rfl) rfl rfl rfl ?_
  refine o_fr rfl (po_faddr rfl (by exact fc_field_81_0_0)) rfl rfl rfl ?_
  refine o_fr rfl (po_faddr rfl (by exact fc_field_24_0_0)) rfl rfl rfl ?_
  refine o_rd rfl (po_load rfl (by exact fc_flat_3) (by rfl)) (by first | exact fun _ h => h | exact ent) rfl rfl rfl ?_
  refine o_fr rfl (po_move rfl) rfl rfl rfl ?_
  refine o_fr rfl (po_nil rfl) rfl rfl rfl ?_
  refine o_fr rfl (po_faddr rfl (by exact fc_field_81_0_0)) rfl rfl rfl ?_
  refine o_fr rfl (po_faddr rfl (by exact fc_field_24_1_1)) rfl rfl rfl ?_
  refine o_rd rfl (po_load rfl (by exact fc_flat_3) (by rfl)) (by first | exact fun _ h => h | exact ent) rfl rfl rfl ?_
  refine o_fr rfl (po_assign rfl) rfl rfl rfl ?_
  refine o_fr rfl (po_assign rfl) rfl rfl rfl ?_
  refine o_nil ?_
  refine at_then_wp ?_
  refine r_ret ?_
  refine at_ret2 rfl (rv_tmp rfl) (rv_tmp rfl) ⟨_, ⟨rfl, rfl⟩, ?_⟩
  try dsimp only [List.cons_append, List.nil_append, GridS.l, GridS.p]
  exact ent
theorem grid_Size0 : Spec PP 38 #[.pointer none] [] (fun v M => v = .tuple #[.int .i64 0, .int .i64 0] ∧ M = []) := by
  refine spec_of (Go.Proofs.Tryz.func38) rfl rfl rfl (by exact fc_enters_38) ?_
  intro g F
  try dsimp only [List.cons_append, List.nil_append, GridS.l, GridS.p]
  refine r_seq ?_
  refine r_reg ?_
  refine ws (st_po (po_assign rfl) rfl rfl rfl ?_)
  refine ws (st_po (po_assign rfl) rfl rfl rfl ?_)
  refine s_nil ?_
  refine at_then_wp ?_
  refine r_seq ?_
  refine r_seq ?_
  refine r_reg ?_
  refine ws (st_po (po_move rfl) rfl rfl rfl ?_)
  refine ws (st_po (po_peq rfl rfl (by exact fc_ptr_27)) rfl rfl rfl ?_)
  refine s_nil ?_
  refine at_then_wp ?_
  refine r_cond_t rfl (rfl) ?_
  refine r_seq ?_
  refine r_reg ?_
  refine ws (st_po (po_assign rfl) rfl rfl rfl ?_)
  refine ws (st_po (po_assign rfl) rfl rfl rfl ?_)
  refine s_nil ?_
  refine at_then_wp ?_
  refine r_ret ?_
  refine at_then_ret ?_
  refine at_ret2 rfl (rv_tmp rfl) (rv_tmp rfl) ⟨_, ⟨rfl, rfl⟩, ?_⟩
  try dsimp only [List.cons_append, List.nil_append, GridS.l, GridS.p]
  exact ent

/-- a cell's cost -/
def costN (c : List Int) (i : Int) : Int := if 0 ≤ i ∧ i < c.length then cAt c i else 0
theorem grid_Cost (s : GridS) (i : Int) (hc : Bytes s.c) : Spec PP 47 #[s.p, .int .i64 i] s.l (fun v M => v = .int .i64 (costN s.c i) ∧ M = s.l) := by
  refine spec_of (Go.Proofs.Tryz.func47) rfl rfl rfl (by exact fc_enters_47) ?_
  intro g F
  try dsimp only [List.cons_append, List.nil_append, GridS.l, GridS.p]
  refine r_seq ?_
  refine r_reg ?_
  refine ws (st_po (po_assign rfl) rfl rfl rfl ?_)
  refine s_nil ?_
  refine at_then_wp ?_
  refine r_seq ?_
  refine r_seq ?_
  refine r_reg ?_
  refine ws (st_po (po_move rfl) rfl rfl rfl ?_)
  refine ws (st_po (po_peq rfl rfl (by exact fc_ptr_27)) rfl rfl rfl ?_)
  refine ws (st_po (po_bf (po_move rfl) (rfl)) rfl rfl rfl ?_)
  refine ws (st_po (po_move rfl) rfl rfl rfl ?_)
  refine ws (st_po (po_lt rfl rfl) rfl rfl rfl ?_)
  refine ws (st_po (po_pick_f rfl rfl) rfl rfl rfl ?_)
  by_cases h1 : i < 0
  · skip
    refine ws (st_po (po_bt (po_move rfl) (decide_eq_true h1)) rfl rfl rfl ?_)
    refine ws (st_no rfl rfl rfl ?_)
    refine ws (st_no rfl rfl rfl ?_)
    refine ws (st_no rfl rfl rfl ?_)
    refine ws (st_no rfl rfl rfl ?_)
    refine ws (st_no rfl rfl rfl ?_)
    refine ws (st_no rfl rfl rfl ?_)
    refine ws (st_no rfl rfl rfl ?_)
    refine ws (st_no rfl rfl rfl ?_)
    refine ws (st_po (po_pick_t rfl rfl) rfl rfl rfl ?_)
    refine s_nil ?_
    refine at_then_wp ?_
    refine r_cond_t rfl rfl ?_
    refine r_seq ?_
    refine r_reg ?_
    refine ws (st_po (po_assign rfl) rfl rfl rfl ?_)
    refine s_nil ?_
    refine at_then_wp ?_
    refine r_ret ?_
    refine at_then_ret ?_
    refine at_ret1 rfl (rv_tmp rfl) ⟨_, ⟨by rw [costN, if_neg (by omega)], rfl⟩, ?_⟩
    try dsimp only [List.cons_append, List.nil_append, GridS.l, GridS.p]
    exact ent
  · skip
    refine ws (st_po (po_bf (po_move rfl) (decide_eq_false h1)) rfl rfl rfl ?_)
    refine ws (st_po (po_move rfl) rfl rfl rfl ?_)
    refine ws (st_po (po_move rfl) rfl rfl rfl ?_)
    refine ws (st_po (po_nil rfl) rfl rfl rfl ?_)
    refine ws (st_po (po_faddr rfl (by exact fc_field_81_0_0)) rfl rfl rfl ?_)
    refine ws (st_po (po_faddr rfl (by exact fc_field_24_2_2)) rfl rfl rfl ?_)
    refine ws (st_po (po_load rfl (by exact fc_flat_22) (by rfl)) rfl rfl rfl ?_)
    refine ws (st_po (po_len rfl (by exact fc_slice_22_5_1)) rfl rfl rfl ?_)
    refine ws (st_po (po_ge rfl rfl) rfl rfl rfl ?_)
    refine ws (st_po (po_pick_f rfl rfl) rfl rfl rfl ?_)
    refine s_nil ?_
    refine at_then_wp ?_
    first | refine r_cond_not rfl ?_ ?_ | refine r_cond_dec rfl ?_ ?_ | refine r_cond rfl ?_ ?_
    · intro h2
      refine r_seq ?_
      refine r_reg ?_
      refine ws (st_po (po_assign rfl) rfl rfl rfl ?_)
      refine s_nil ?_
      refine at_then_wp ?_
      refine r_ret ?_
      refine at_then_ret ?_
      refine at_ret1 rfl (rv_tmp rfl) ⟨_, ⟨by rw [costN, if_neg (by omega)], rfl⟩, ?_⟩
      try dsimp only [List.cons_append, List.nil_append, GridS.l, GridS.p]
      exact ent
    · intro h2
      have hx := hc.get (i := i.toNat) (by omega)
      refine r_skip ?_
      refine at_then_wp ?_
      refine r_seq ?_
      refine r_reg ?_
      refine ws (st_po (po_move rfl) rfl rfl rfl ?_)
      refine ws (st_po (po_nil rfl) rfl rfl rfl ?_)
      refine ws (st_po (po_faddr rfl (by exact fc_field_81_0_0)) rfl rfl rfl ?_)
      refine ws (st_po (po_faddr rfl (by exact fc_field_24_2_2)) rfl rfl rfl ?_)
      refine ws (st_po (po_load rfl (by exact fc_flat_22) (by rfl)) rfl rfl rfl ?_)
      refine ws (st_po (po_move rfl) rfl rfl rfl ?_)
      refine ws (st_po (po_iaddr rfl rfl (by exact fc_slice_22_5_1) (by first | omega | (simp only [List.length_nil, List.length_cons, List.length_append, List.length_replicate, List.length_set, List.length_map, List.length_take, List.length_drop]; omega)) (by first | omega | (simp only [List.length_nil, List.length_cons, List.length_append, List.length_replicate, List.length_set, List.length_map, List.length_take, List.length_drop]; omega))) rfl rfl rfl ?_)
      refine ws (st_po (po_load_sl rfl (List.getElem?_eq_getElem (by first | omega | (simp only [List.length_nil, List.length_cons, List.length_append, List.length_replicate, List.length_set, List.length_map, List.length_take, List.length_drop]; omega))) (by exact fc_flat_5) (by rfl)) rfl rfl rfl ?_)
      refine ws (st_po (po_conv_w rfl (by exact fc_int_5_u8) (by exact fc_int_3_i64) (wrap_i64 _ (by omega) (by omega))) rfl rfl rfl ?_)
      refine ws (st_po (po_assign rfl) rfl rfl rfl ?_)
      refine s_nil ?_
      refine at_then_wp ?_
      refine r_ret ?_
      refine at_ret1 rfl (rv_tmp rfl) ⟨_, ⟨by rw [costN, if_pos (by omega), cAt_get (by omega)], rfl⟩, ?_⟩
      try dsimp only [List.cons_append, List.nil_append, GridS.l, GridS.p]
      exact ent

theorem grid_Epoch (s : GridS) : Spec PP 40 #[s.p] s.l (fun v M => v = .int .i64 s.ep ∧ M = s.l) := by
  refine spec_of (Go.Proofs.Tryz.func40) rfl rfl rfl (by exact fc_enters_40) ?_
  intro g F
  try dsimp only [List.cons_append, List.nil_append, GridS.l, GridS.p]
  refine r_seq ?_
  refine r_reg ?_
  refine ws (st_po (po_assign rfl) rfl rfl rfl ?_)
  refine s_nil ?_
  refine at_then_wp ?_
  refine r_seq ?_
  refine r_seq ?_
  refine r_reg ?_
  refine ws (st_po (po_move rfl) rfl rfl rfl ?_)
  refine ws (st_po (po_peq rfl rfl (by exact fc_ptr_27)) rfl rfl rfl ?_)
  refine s_nil ?_
  refine at_then_wp ?_
  refine r_cond_f rfl (rfl) ?_
  refine r_skip ?_
  refine at_then_wp ?_
  refine r_seq ?_
  refine r_reg ?_
  refine ws (st_po (po_move rfl) rfl rfl rfl ?_)
  refine ws (st_po (po_nil rfl) rfl rfl rfl ?_)
  refine ws (st_po (po_faddr rfl (by exact fc_field_81_1_3)) rfl rfl rfl ?_)
  refine ws (st_po (po_load rfl (by exact fc_flat_2) (by rfl)) rfl rfl rfl ?_)
  refine ws (st_po (po_assign rfl) rfl rfl rfl ?_)
  refine s_nil ?_
  refine at_then_wp ?_
  refine r_ret ?_
  refine at_ret1 rfl (rv_tmp rfl) ⟨_, ⟨rfl, rfl⟩, ?_⟩
  try dsimp only [List.cons_append, List.nil_append, GridS.l, GridS.p]
  exact ent
theorem grid_Epoch0 : Spec PP 40 #[.pointer none] [] (fun v M => v = .int .i64 0 ∧ M = []) := by
  refine spec_of (Go.Proofs.Tryz.func40) rfl rfl rfl (by exact fc_enters_40) ?_
  intro g F
  try dsimp only [List.cons_append, List.nil_append, GridS.l, GridS.p]
  refine r_seq ?_
  refine r_reg ?_
  refine ws (st_po (po_assign rfl) rfl rfl rfl ?_)
  refine s_nil ?_
  refine at_then_wp ?_
  refine r_seq ?_
  refine r_seq ?_
  refine r_reg ?_
  refine ws (st_po (po_move rfl) rfl rfl rfl ?_)
  refine ws (st_po (po_peq rfl rfl (by exact fc_ptr_27)) rfl rfl rfl ?_)
  refine s_nil ?_
  refine at_then_wp ?_
  refine r_cond_t rfl (rfl) ?_
  refine r_seq ?_
  refine r_reg ?_
  refine ws (st_po (po_assign rfl) rfl rfl rfl ?_)
  refine s_nil ?_
  refine at_then_wp ?_
  refine r_ret ?_
  refine at_then_ret ?_
  refine at_ret1 rfl (rv_tmp rfl) ⟨_, ⟨rfl, rfl⟩, ?_⟩
  try dsimp only [List.cons_append, List.nil_append, GridS.l, GridS.p]
  exact ent
theorem grid_Version (s : GridS) (i : Int) : Spec PP 116 #[s.p, .int .i64 i] s.l (fun v M => v = .int .i64 (if 0 ≤ i ∧ i < s.vs.length then cAt s.vs i else 0) ∧ M = s.l) := by
  refine spec_of (Go.Proofs.Tryz.func116) rfl rfl rfl (by exact fc_enters_116) ?_
  intro g F
  try dsimp only [List.cons_append, List.nil_append, GridS.l, GridS.p]
  refine r_seq ?_
  refine r_reg ?_
  refine ws (st_po (po_assign rfl) rfl rfl rfl ?_)
  refine s_nil ?_
  refine at_then_wp ?_
  refine r_seq ?_
  refine r_seq ?_
  refine r_reg ?_
  refine ws (st_po (po_move rfl) rfl rfl rfl ?_)
  refine ws (st_po (po_peq rfl rfl (by exact fc_ptr_27)) rfl rfl rfl ?_)
  refine ws (st_po (po_bf (po_move rfl) (rfl)) rfl rfl rfl ?_)
  refine ws (st_po (po_move rfl) rfl rfl rfl ?_)
  refine ws (st_po (po_lt rfl rfl) rfl rfl rfl ?_)
  refine ws (st_po (po_pick_f rfl rfl) rfl rfl rfl ?_)
  by_cases h1 : i < 0
  · skip
    refine ws (st_po (po_bt (po_move rfl) (decide_eq_true h1)) rfl rfl rfl ?_)
    refine ws (st_no rfl rfl rfl ?_)
    refine ws (st_no rfl rfl rfl ?_)
    refine ws (st_no rfl rfl rfl ?_)
    refine ws (st_no rfl rfl rfl ?_)
    refine ws (st_no rfl rfl rfl ?_)
    refine ws (st_no rfl rfl rfl ?_)
    refine ws (st_no rfl rfl rfl ?_)
    refine ws (st_po (po_pick_t rfl rfl) rfl rfl rfl ?_)
    refine s_nil ?_
    refine at_then_wp ?_
    refine r_cond_t rfl rfl ?_
    refine r_seq ?_
    refine r_reg ?_
    refine ws (st_po (po_assign rfl) rfl rfl rfl ?_)
    refine s_nil ?_
    refine at_then_wp ?_
    refine r_ret ?_
    refine at_then_ret ?_
    refine at_ret1 rfl (rv_tmp rfl) ⟨_, ⟨by rw [if_neg (by omega)], rfl⟩, ?_⟩
    try dsimp only [List.cons_append, List.nil_append, GridS.l, GridS.p]
    exact ent
  · skip
    refine ws (st_po (po_bf (po_move rfl) (decide_eq_false h1)) rfl rfl rfl ?_)
    refine ws (st_po (po_move rfl) rfl rfl rfl ?_)
    refine ws (st_po (po_move rfl) rfl rfl rfl ?_)
    refine ws (st_po (po_nil rfl) rfl rfl rfl ?_)
    refine ws (st_po (po_faddr rfl (by exact fc_field_81_2_4)) rfl rfl rfl ?_)
    refine ws (st_po (po_load rfl (by exact fc_flat_79) (by rfl)) rfl rfl rfl ?_)
    refine ws (st_po (po_len rfl (by exact fc_slice_79_2_1)) rfl rfl rfl ?_)
    refine ws (st_po (po_ge rfl rfl) rfl rfl rfl ?_)
    refine ws (st_po (po_pick_f rfl rfl) rfl rfl rfl ?_)
    refine s_nil ?_
    refine at_then_wp ?_
    first | refine r_cond_not rfl ?_ ?_ | refine r_cond_dec rfl ?_ ?_ | refine r_cond rfl ?_ ?_
    · intro h2
      refine r_seq ?_
      refine r_reg ?_
      refine ws (st_po (po_assign rfl) rfl rfl rfl ?_)
      refine s_nil ?_
      refine at_then_wp ?_
      refine r_ret ?_
      refine at_then_ret ?_
      refine at_ret1 rfl (rv_tmp rfl) ⟨_, ⟨by rw [if_neg (by omega)], rfl⟩, ?_⟩
      try dsimp only [List.cons_append, List.nil_append, GridS.l, GridS.p]
      exact ent
    · intro h2
      refine r_skip ?_
      refine at_then_wp ?_
      refine r_seq ?_
      refine r_reg ?_
      refine ws (st_po (po_move rfl) rfl rfl rfl ?_)
      refine ws (st_po (po_nil rfl) rfl rfl rfl ?_)
      refine ws (st_po (po_faddr rfl (by exact fc_field_81_2_4)) rfl rfl rfl ?_)
      refine ws (st_po (po_load rfl (by exact fc_flat_79) (by rfl)) rfl rfl rfl ?_)
      refine ws (st_po (po_move rfl) rfl rfl rfl ?_)
      refine ws (st_po (po_iaddr rfl rfl (by exact fc_slice_79_2_1) (by first | omega | (simp only [List.length_nil, List.length_cons, List.length_append, List.length_replicate, List.length_set, List.length_map, List.length_take, List.length_drop]; omega)) (by first | omega | (simp only [List.length_nil, List.length_cons, List.length_append, List.length_replicate, List.length_set, List.length_map, List.length_take, List.length_drop]; omega))) rfl rfl rfl ?_)
      refine ws (st_po (po_load_sl rfl (List.getElem?_eq_getElem (by first | omega | (simp only [List.length_nil, List.length_cons, List.length_append, List.length_replicate, List.length_set, List.length_map, List.length_take, List.length_drop]; omega))) (by exact fc_flat_2) (by rfl)) rfl rfl rfl ?_)
      refine ws (st_po (po_assign rfl) rfl rfl rfl ?_)
      refine s_nil ?_
      refine at_then_wp ?_
      refine r_ret ?_
      refine at_ret1 rfl (rv_tmp rfl) ⟨_, ⟨by rw [if_pos (by omega), cAt_get (by omega)], rfl⟩, ?_⟩
      try dsimp only [List.cons_append, List.nil_append, GridS.l, GridS.p]
      exact ent
end Hd
end
section
namespace Hd
set_option maxRecDepth 100000
open Go

/-- a grid as the program keeps it -/
structure GridOk (s : GridS) : Prop where
  may : May s.w s.h
  len : (s.c.length : Int) = s.w * s.h
  bt : ∀ x ∈ s.c, 1 ≤ x ∧ x ≤ 255
  vlen : (s.vs.length : Int) = acrN s.w * acrN s.h
  ep0 : 0 ≤ s.ep
  ep1 : s.ep ≤ 4611686018427387904 + 4611686018427387904 - 1
theorem GridOk.bytes {s : GridS} (h : GridOk s) : Bytes s.c := fun x hx => by have := h.bt x hx; omega
theorem GridOk.isc {s : GridS} (h : GridOk s) {c : Int} : IsC s.w s.h c ↔ 0 ≤ c ∧ c < s.c.length := by rw [h.len]; exact ⟨fun k => k.2, fun k => ⟨h.may, k⟩⟩

/-- an edit that may be -/
abbrev GridS.edit (s : GridS) (i cost : Int) : GridS := { s with c := s.c.set i.toNat cost, ep := s.ep + 1, vs := s.vs.set (sectorN s.w s.h i).toNat (s.ep + 1) }
theorem grid_Edit (s : GridS) (i cost : Int) (ok : GridOk s) (hi : 0 ≤ i ∧ i < s.c.length) (hc : 1 ≤ cost ∧ cost ≤ 255) (he : s.ep ≤ 4611686018427387904) :
    Spec PP 23 #[s.p, .int .i64 i, .int .i64 cost] s.l (fun v M => v = .int .i64 0 ∧ M = (s.edit i cost).l) := by
  have hs := sector_lt (ok.isc.2 hi)
  have hv := ok.vlen
  have h0 := ok.ep0
  have hs2 := hs.1.2
  refine spec_of (Go.Proofs.Tryz.func23) rfl rfl rfl (by exact fc_enters_23) ?_
  intro g F
  try dsimp only [List.cons_append, List.nil_append, GridS.l, GridS.p]
  refine r_seq ?_
  refine r_reg ?_
  refine ws (st_po (po_assign rfl) rfl rfl rfl ?_)
  refine s_nil ?_
  refine at_then_wp ?_
  refine r_seq ?_
  refine r_block ?_
  refine r_seq ?_
  refine r_reg ?_
  refine ws (st_po (po_move rfl) rfl rfl rfl ?_)
  refine ws (st_po (po_peq rfl rfl (by exact fc_ptr_27)) rfl rfl rfl ?_)
  refine ws (st_po (po_assign rfl) rfl rfl rfl ?_)
  refine s_nil ?_
  refine at_then_wp ?_
  refine r_cond_f rfl (rfl) ?_
  refine r_seq ?_
  refine r_reg ?_
  refine ws (st_po (po_move rfl) rfl rfl rfl ?_)
  refine ws (st_po (po_lt rfl rfl) rfl rfl rfl ?_)
  refine ws (st_po (po_bf (po_move rfl) (decide_eq_false (by omega))) rfl rfl rfl ?_)
  refine ws (st_po (po_move rfl) rfl rfl rfl ?_)
  refine ws (st_po (po_move rfl) rfl rfl rfl ?_)
  refine ws (st_po (po_nil rfl) rfl rfl rfl ?_)
  refine ws (st_po (po_faddr rfl (by exact fc_field_81_0_0)) rfl rfl rfl ?_)
  refine ws (st_po (po_faddr rfl (by exact fc_field_24_2_2)) rfl rfl rfl ?_)
  refine ws (st_po (po_load rfl (by exact fc_flat_22) (by rfl)) rfl rfl rfl ?_)
  refine ws (st_po (po_len rfl (by exact fc_slice_22_5_1)) rfl rfl rfl ?_)
  refine ws (st_po (po_ge rfl rfl) rfl rfl rfl ?_)
  refine ws (st_po (po_pick_f rfl rfl) rfl rfl rfl ?_)
  refine ws (st_po (po_assign rfl) rfl rfl rfl ?_)
  refine s_nil ?_
  refine at_then_wp ?_
  first | refine r_dec_f rfl (by omega) ?_ | refine r_nd_f rfl (by omega) ?_ | refine r_cond_f rfl (by omega) ?_
  refine r_seq ?_
  refine r_reg ?_
  refine ws (st_po (po_move rfl) rfl rfl rfl ?_)
  refine ws (st_po (po_lt rfl rfl) rfl rfl rfl ?_)
  refine ws (st_po (po_bf (po_move rfl) (decide_eq_false (by omega))) rfl rfl rfl ?_)
  refine ws (st_po (po_move rfl) rfl rfl rfl ?_)
  refine ws (st_po (po_gt rfl rfl) rfl rfl rfl ?_)
  refine ws (st_po (po_pick_f rfl rfl) rfl rfl rfl ?_)
  refine ws (st_po (po_assign rfl) rfl rfl rfl ?_)
  refine s_nil ?_
  refine at_then_wp ?_
  first | refine r_dec_f rfl (by omega) ?_ | refine r_nd_f rfl (by omega) ?_ | refine r_cond_f rfl (by omega) ?_
  refine r_skip ?_
  refine at_block_normal ?_
  refine at_then_wp ?_
  refine r_seq ?_
  refine r_reg ?_
  refine ws (st_po (po_move rfl) rfl rfl rfl ?_)
  refine ws (st_po (po_nil rfl) rfl rfl rfl ?_)
  refine ws (st_po (po_faddr rfl (by exact fc_field_81_0_0)) rfl rfl rfl ?_)
  refine ws (st_po (po_faddr rfl (by exact fc_field_24_2_2)) rfl rfl rfl ?_)
  refine ws (st_po (po_load rfl (by exact fc_flat_22) (by rfl)) rfl rfl rfl ?_)
  refine ws (st_po (po_move rfl) rfl rfl rfl ?_)
  refine ws (st_po (po_move rfl) rfl rfl rfl ?_)
  refine ws (st_po (po_conv_w rfl (by exact fc_int_3_i64) (by exact fc_int_5_u8) (wrap_u8 _ (by omega) (by omega))) rfl rfl rfl ?_)
  refine ws (st_po (po_iaddr rfl rfl (by exact fc_slice_22_5_1) (by first | omega | (simp only [List.length_nil, List.length_cons, List.length_append, List.length_replicate, List.length_set, List.length_map, List.length_take, List.length_drop]; omega)) (by first | omega | (simp only [List.length_nil, List.length_cons, List.length_append, List.length_replicate, List.length_set, List.length_map, List.length_take, List.length_drop]; omega))) rfl rfl rfl ?_)
  refine ws (st_so (so_store_sl rfl rfl (List.getElem?_eq_getElem (by omega)) (by exact fc_flat_5) (by decide) (by rfl) (by rfl)) rfl rfl ?_)
  refine s_nil ?_
  refine at_then_wp ?_
  refine r_seq ?_
  refine r_reg ?_
  refine ws (st_po (po_move rfl) rfl rfl rfl ?_)
  refine ws (st_po (po_nil rfl) rfl rfl rfl ?_)
  refine ws (st_po (po_faddr rfl (by exact fc_field_81_1_3)) rfl rfl rfl ?_)
  refine ws (st_po (po_load rfl (by exact fc_flat_2) (by rfl)) rfl rfl rfl ?_)
  refine ws (st_po (po_add' rfl rfl (by omega) (by omega)) rfl rfl rfl ?_)
  refine ws (st_po (po_nil rfl) rfl rfl rfl ?_)
  refine ws (st_po (po_faddr rfl (by exact fc_field_81_1_3)) rfl rfl rfl ?_)
  refine ws (st_so (so_store1 rfl rfl (by exact fc_flat_2) rfl) rfl rfl ?_)
  refine s_nil ?_
  refine at_then_wp ?_
  refine r_seq ?_
  refine r_ord [21] _ [(0, 1), (1, 1), (2, 1), (3, 0), (4, 1), (5, 1), (6, 1), (7, 1), (8, 0), (9, 1), (10, 1), (11, 1), (12, 1), (13, 0), (14, 1), (16, 1), (17, 1), (18, 1), (19, 0), (15, 2), (20, 0), (21, 2)] fc_mixed (by kernel_rfl) (fun _ h => h) ?_
  refine o_fr rfl (po_move rfl) rfl rfl rfl ?_
  refine o_fr rfl (po_nil rfl) rfl rfl rfl ?_
  refine o_fr rfl (po_faddr rfl (by exact fc_field_81_2_4)) rfl rfl rfl ?_
  refine o_rd rfl (po_load rfl (by exact fc_flat_79) (by rfl)) (by first | exact fun _ h => h | exact ent) rfl rfl rfl ?_
  refine o_fr rfl (po_move rfl) rfl rfl rfl ?_
  refine o_fr rfl (po_nil rfl) rfl rfl rfl ?_
  refine o_fr rfl (po_faddr rfl (by exact fc_field_81_0_0)) rfl rfl rfl ?_
  refine o_fr rfl (po_faddr rfl (by exact fc_field_24_0_0)) rfl rfl rfl ?_
  refine o_rd rfl (po_load rfl (by exact fc_flat_3) (by rfl)) (by first | exact fun _ h => h | exact ent) rfl rfl rfl ?_
  refine o_fr rfl (po_move rfl) rfl rfl rfl ?_
  refine o_fr rfl (po_nil rfl) rfl rfl rfl ?_
  refine o_fr rfl (po_faddr rfl (by exact fc_field_81_0_0)) rfl rfl rfl ?_
  refine o_fr rfl (po_faddr rfl (by exact fc_field_24_1_1)) rfl rfl rfl ?_
  refine o_rd rfl (po_load rfl (by exact fc_flat_3) (by rfl)) (by first | exact fun _ h => h | exact ent) rfl rfl rfl ?_
  refine o_fr rfl (po_move rfl) rfl rfl rfl ?_
  refine o_fr rfl (po_move rfl) rfl rfl rfl ?_
  refine o_fr rfl (po_nil rfl) rfl rfl rfl ?_
  refine o_fr rfl (po_faddr rfl (by exact fc_field_81_1_3)) rfl rfl rfl ?_
  refine o_rd rfl (po_load rfl (by exact fc_flat_2) (by rfl)) (by first | exact fun _ h => h | exact ent) rfl rfl rfl ?_
  refine o_st rfl (st_call (co_fn rfl rfl) (where_Sector s.w s.h i) (by infer_instance) rfl rfl rfl ?_)
  rintro v61 _ ⟨rfl, rfl⟩
  try dsimp only [List.cons_append, List.nil_append, GridS.l, GridS.p]
  refine ⟨fun _ => (by first | exact fun _ h => h | exact ent), ?_⟩
  refine o_rd rfl (po_iaddr rfl rfl (by exact fc_slice_79_2_1) (by first | omega | (simp only [List.length_nil, List.length_cons, List.length_append, List.length_replicate, List.length_set, List.length_map, List.length_take, List.length_drop]; omega)) (by first | omega | (simp only [List.length_nil, List.length_cons, List.length_append, List.length_replicate, List.length_set, List.length_map, List.length_take, List.length_drop]; omega))) (by first | exact fun _ h => h | exact ent) rfl rfl rfl ?_
  refine o_st rfl (st_so (so_store_sl rfl rfl (List.getElem?_eq_getElem (by omega)) (by exact fc_flat_2) (by decide) (by rfl) (by rfl)) rfl rfl ?_)
  refine ⟨fun h => late_no h (by kernel_rfl), ?_⟩
  refine o_nil ?_
  refine at_then_wp ?_
  refine r_seq ?_
  refine r_reg ?_
  refine ws (st_po (po_assign rfl) rfl rfl rfl ?_)
  refine s_nil ?_
  refine at_then_wp ?_
  refine r_ret ?_
  refine at_ret1 rfl (rv_tmp rfl) ⟨_, ⟨rfl, rfl⟩, ?_⟩
  try dsimp only [List.cons_append, List.nil_append, GridS.l, GridS.p]
  exact ent
theorem grid_Edit1 (s : GridS) (i cost : Int) (hi : ¬ (0 ≤ i ∧ i < s.c.length)) :
    Spec PP 23 #[s.p, .int .i64 i, .int .i64 cost] s.l (fun v M => v = .int .i64 7 ∧ M = s.l) := by
  refine spec_of (Go.Proofs.Tryz.func23) rfl rfl rfl (by exact fc_enters_23) ?_
  intro g F
  try dsimp only [List.cons_append, List.nil_append, GridS.l, GridS.p]
  refine r_seq ?_
  refine r_reg ?_
  refine ws (st_po (po_assign rfl) rfl rfl rfl ?_)
  refine s_nil ?_
  refine at_then_wp ?_
  refine r_seq ?_
  refine r_block ?_
  refine r_seq ?_
  refine r_reg ?_
  refine ws (st_po (po_move rfl) rfl rfl rfl ?_)
  refine ws (st_po (po_peq rfl rfl (by exact fc_ptr_27)) rfl rfl rfl ?_)
  refine ws (st_po (po_assign rfl) rfl rfl rfl ?_)
  refine s_nil ?_
  refine at_then_wp ?_
  refine r_cond_f rfl (rfl) ?_
  refine r_seq ?_
  refine r_reg ?_
  refine ws (st_po (po_move rfl) rfl rfl rfl ?_)
  refine ws (st_po (po_lt rfl rfl) rfl rfl rfl ?_)
  by_cases h1 : i < 0
  · skip
    refine ws (st_po (po_bt (po_move rfl) (decide_eq_true h1)) rfl rfl rfl ?_)
    refine ws (st_no rfl rfl rfl ?_)
    refine ws (st_no rfl rfl rfl ?_)
    refine ws (st_no rfl rfl rfl ?_)
    refine ws (st_no rfl rfl rfl ?_)
    refine ws (st_no rfl rfl rfl ?_)
    refine ws (st_no rfl rfl rfl ?_)
    refine ws (st_no rfl rfl rfl ?_)
    refine ws (st_no rfl rfl rfl ?_)
    refine ws (st_po (po_pick_t rfl rfl) rfl rfl rfl ?_)
    refine ws (st_po (po_assign rfl) rfl rfl rfl ?_)
    refine s_nil ?_
    refine at_then_wp ?_
    refine r_cond_t rfl rfl ?_
    refine r_seq ?_
    refine r_reg ?_
    refine ws (st_po (po_assign rfl) rfl rfl rfl ?_)
    refine s_nil ?_
    refine at_then_wp ?_
    refine r_ret ?_
    refine at_block_ret ?_
    refine at_then_ret ?_
    refine at_ret1 rfl (rv_tmp rfl) ⟨_, ⟨rfl, rfl⟩, ?_⟩
    try dsimp only [List.cons_append, List.nil_append, GridS.l, GridS.p]
    exact ent
  · skip
    refine ws (st_po (po_bf (po_move rfl) (decide_eq_false h1)) rfl rfl rfl ?_)
    refine ws (st_po (po_move rfl) rfl rfl rfl ?_)
    refine ws (st_po (po_move rfl) rfl rfl rfl ?_)
    refine ws (st_po (po_nil rfl) rfl rfl rfl ?_)
    refine ws (st_po (po_faddr rfl (by exact fc_field_81_0_0)) rfl rfl rfl ?_)
    refine ws (st_po (po_faddr rfl (by exact fc_field_24_2_2)) rfl rfl rfl ?_)
    refine ws (st_po (po_load rfl (by exact fc_flat_22) (by rfl)) rfl rfl rfl ?_)
    refine ws (st_po (po_len rfl (by exact fc_slice_22_5_1)) rfl rfl rfl ?_)
    refine ws (st_po (po_ge rfl rfl) rfl rfl rfl ?_)
    refine ws (st_po (po_pick_f rfl rfl) rfl rfl rfl ?_)
    refine ws (st_po (po_assign rfl) rfl rfl rfl ?_)
    refine s_nil ?_
    refine at_then_wp ?_
    first | refine r_dec_t rfl (by omega) ?_ | refine r_nd_t rfl (by omega) ?_ | refine r_cond_t rfl (by omega) ?_
    refine r_seq ?_
    refine r_reg ?_
    refine ws (st_po (po_assign rfl) rfl rfl rfl ?_)
    refine s_nil ?_
    refine at_then_wp ?_
    refine r_ret ?_
    refine at_block_ret ?_
    refine at_then_ret ?_
    refine at_ret1 rfl (rv_tmp rfl) ⟨_, ⟨rfl, rfl⟩, ?_⟩
    try dsimp only [List.cons_append, List.nil_append, GridS.l, GridS.p]
    exact ent

/-- the rows of a sector -/
def rowN (w h s : Int) (c : List Int) (y : Nat) : List Int := (c.take (globalN w h s (y * (sizeN w h s).1) + (sizeN w h s).1).toNat).drop (globalN w h s (y * (sizeN w h s).1)).toNat
def rowsN (w h s : Int) (c : List Int) (k : Nat) : List Int := (List.range k).flatMap (rowN w h s c)
theorem rowsN_succ (w h s : Int) (c : List Int) (k : Nat) : rowsN w h s c (k + 1) = rowsN w h s c k ++ rowN w h s c k := by simp [rowsN, List.range_succ]
theorem row_ok {s : GridS} (ok : GridOk s) {i : Int} (hi : IsS s.w s.h i) (k : Nat) (hk : (k : Int) < (sizeN s.w s.h i).2) :
    0 ≤ globalN s.w s.h i (k * (sizeN s.w s.h i).1) ∧ globalN s.w s.h i (k * (sizeN s.w s.h i).1) + (sizeN s.w s.h i).1 ≤ s.c.length := by
  have hp := size_pos hi
  have hl : 0 ≤ (k : Int) * (sizeN s.w s.h i).1 ∧ (k : Int) * (sizeN s.w s.h i).1 < (sizeN s.w s.h i).1 * (sizeN s.w s.h i).2 := by
    have := mul_lt (a := 0) (b := (k : Int)) (c := (sizeN s.w s.h i).1) (d := (sizeN s.w s.h i).2) (by omega) (by omega) (by omega) hk
    omega
  obtain ⟨hg, hx, hy⟩ := global_is hi hl.1 hl.2
  have hlen := ok.len
  have e := isc_xy hg
  have hd := xy_div (w := (sizeN s.w s.h i).1) (x := 0) (y := k) (by omega) (by omega)
  rw [Int.add_zero] at hd
  rw [hd.2] at hx
  rw [hd.1] at hy
  have hr := mul_lt (a := globalN s.w s.h i (k * (sizeN s.w s.h i).1) % s.w + (sizeN s.w s.h i).1 - 1) (b := globalN s.w s.h i (k * (sizeN s.w s.h i).1) / s.w) (c := s.w) (d := s.h) (by omega) (by omega) e.2.1.1 e.2.1.2
  omega
theorem rows_len {s : GridS} (ok : GridOk s) {i : Int} (hi : IsS s.w s.h i) : ∀ (k : Nat), (k : Int) ≤ (sizeN s.w s.h i).2 → ((rowsN s.w s.h i s.c k).length : Int) = k * (sizeN s.w s.h i).1
  | 0, _ => by simp [rowsN]
  | k + 1, hk => by
    have := row_ok ok hi k (by omega)
    have ih := rows_len ok hi k (by omega)
    have hz := size_le s.w s.h i
    rw [rowsN_succ, List.length_append, Int.natCast_add, ih, rowN, List.length_drop, List.length_take]
    have e : ((k + 1 : Nat) : Int) * (sizeN s.w s.h i).1 = k * (sizeN s.w s.h i).1 + (sizeN s.w s.h i).1 := by rw [Int.natCast_add, Int.add_mul]; simp
    omega

/-- a sector's costs -/
abbrev tileN (s : GridS) (i : Int) : Tile := ⟨(sizeN s.w s.h i).1, (sizeN s.w s.h i).2, rowsN s.w s.h i s.c (sizeN s.w s.h i).2.toNat⟩
theorem grid_Tile (s : GridS) (i : Int) (ok : GridOk s) (hi : IsS s.w s.h i) :
    Spec PP 17 #[s.p, .int .i64 i] s.l (fun v M => ∃ tc, v = .tuple #[tileV tc (tileN s i), .bool true] ∧ M = s.l ++ [Sl eB tc (tileN s i).c]) := by
  have hp := size_pos hi
  have hz := size_le s.w s.h i
  have hlen := ok.len
  have hb := may_mul ok.may
  refine spec_of (Go.Proofs.Tryz.func17) rfl rfl rfl (by exact fc_enters_17) ?_
  intro g F
  try dsimp only [List.cons_append, List.nil_append, GridS.l, GridS.p]
  refine r_seq ?_
  refine r_reg ?_
  refine ws (st_xo (xo_alloc (by exact fc_zero_41)) rfl rfl rfl ?_)
  rintro _ _ ⟨b4, rfl, rfl⟩
  refine ws (st_po (po_assign rfl) rfl rfl rfl ?_)
  refine s_nil ?_
  refine at_then_wp ?_
  refine r_seq ?_
  refine r_reg ?_
  refine ws (st_po (po_move rfl) rfl rfl rfl ?_)
  refine ws (st_call (co_fn rfl rfl) (grid_Size s) (by infer_instance) rfl rfl rfl ?_)
  rintro v15 _ ⟨rfl, rfl⟩
  try dsimp only [List.cons_append, List.nil_append, GridS.l, GridS.p]
  refine ws (st_po (po_move rfl) rfl rfl rfl ?_)
  refine ws (st_po (po_extract rfl rfl) rfl rfl rfl ?_)
  refine ws (st_po (po_extract rfl rfl) rfl rfl rfl ?_)
  refine ws (st_po (po_assign rfl) rfl rfl rfl ?_)
  refine ws (st_po (po_assign rfl) rfl rfl rfl ?_)
  refine s_nil ?_
  refine at_then_wp ?_
  refine r_seq ?_
  refine r_reg ?_
  refine ws (st_po (po_move rfl) rfl rfl rfl ?_)
  refine ws (st_po (po_move rfl) rfl rfl rfl ?_)
  refine ws (st_po (po_move rfl) rfl rfl rfl ?_)
  refine ws (st_call (co_fn rfl rfl) (where_Size s.w s.h i) (by infer_instance) rfl rfl rfl ?_)
  rintro v22 _ ⟨rfl, rfl⟩
  try dsimp only [List.cons_append, List.nil_append, GridS.l, GridS.p]
  refine ws (st_po (po_move rfl) rfl rfl rfl ?_)
  refine ws (st_po (po_extract rfl rfl) rfl rfl rfl ?_)
  refine ws (st_po (po_extract rfl rfl) rfl rfl rfl ?_)
  refine ws (st_po (po_assign rfl) rfl rfl rfl ?_)
  refine ws (st_po (po_assign rfl) rfl rfl rfl ?_)
  refine s_nil ?_
  refine at_then_wp ?_
  refine r_seq ?_
  refine r_seq ?_
  refine r_reg ?_
  refine ws (st_po (po_move rfl) rfl rfl rfl ?_)
  refine ws (st_po (po_eq rfl rfl) rfl rfl rfl ?_)
  refine s_nil ?_
  refine at_then_wp ?_
  first | refine r_dec_f rfl (by omega) ?_ | refine r_nd_f rfl (by omega) ?_ | refine r_cond_f rfl (by omega) ?_
  refine r_skip ?_
  refine at_then_wp ?_
  refine r_seq ?_
  refine r_reg ?_
  refine ws (st_po (po_move rfl) rfl rfl rfl ?_)
  refine ws (st_po (po_move rfl) rfl rfl rfl ?_)
  refine ws (st_po (po_build1 rfl (by exact fc_zero_41) (by exact fc_places_41_0_1) (by exact fc_info_41) rfl) rfl rfl rfl ?_)
  refine ws (st_xo (xo_alloc (by exact fc_zero_41)) rfl rfl rfl ?_)
  rintro _ _ ⟨b10, rfl, rfl⟩
  refine ws (st_so (so_storea1 rfl rfl (by exact fc_agg_41_3) rfl rfl) rfl rfl ?_)
  refine s_nil ?_
  refine at_then_wp ?_
  refine r_seq ?_
  refine r_seq ?_
  refine r_reg ?_
  refine ws (st_po (po_move rfl) rfl rfl rfl ?_)
  refine ws (st_po (po_move rfl) rfl rfl rfl ?_)
  refine s_nil ?_
  refine at_then_wp ?_
  refine r_block ?_
  refine r_loop (S := Nat × Value × List Int) (fun ⟨k, cv, xs⟩ => [(32, .int .i64 k)]) [(0, _), (1, _), (4, _), (6, _), (7, _), (8, _), (10, _), (31, _)] (fun ⟨k, cv, xs⟩ => [Blk b10 41 [.int .i64 (sizeN s.w s.h i).1, .int .i64 (sizeN s.w s.h i).2, cv], Sl eB cv xs, Blk s.b 81 [.int .i64 s.w, .int .i64 s.h, s.cv, .int .i64 s.ep, s.vv], Sl eB s.cv s.c, Sl eL s.vv s.vs, Blk b4 41 [.int .i64 0, .int .i64 0, .slice none 0 0], F]) (fun ⟨k, cv, xs⟩ => (k : Int) ≤ (sizeN s.w s.h i).2 ∧ xs = rowsN s.w s.h i s.c k) (fun ⟨k, cv, xs⟩ => (sizeN s.w s.h i).2.toNat - k) ((0, .slice none 0 0, [])) (And.intro rfl (And.intro rfl (And.intro rfl (And.intro rfl (And.intro rfl (And.intro rfl (And.intro rfl (And.intro rfl (trivial))))))))) (And.intro rfl (trivial)) (⟨by omega, rfl⟩) ent ?_
  rintro ⟨k, cv, xs⟩ ⟨hk, hxs⟩
  try dsimp only
  have hmul := mul_1k (a := (k : Int)) (b := (sizeN s.w s.h i).1) (by omega) (by omega) (by omega) (by omega)
  refine r_seq ?_
  refine r_reg ?_
  refine ws (st_po (po_lt rfl rfl) rfl rfl rfl ?_)
  refine s_nil ?_
  refine at_then_wp ?_
  refine r_seq ?_
  first | refine r_cond_not rfl ?_ ?_ | refine r_cond_dec rfl ?_ ?_ | refine r_cond rfl ?_ ?_
  · intro hlt
    have hro := row_ok ok hi k hlt
    have hrl := rows_len ok hi k hk
    rw [← hxs] at hrl
    refine r_skip ?_
    refine at_then_wp ?_
    refine r_seq ?_
    refine r_block ?_
    refine r_seq ?_
    refine r_reg ?_
    refine ws (st_po (po_move rfl) rfl rfl rfl ?_)
    refine ws (st_po (po_assign rfl) rfl rfl rfl ?_)
    refine s_nil ?_
    refine at_then_wp ?_
    refine r_seq ?_
    refine r_reg ?_
    refine ws (st_po (po_move rfl) rfl rfl rfl ?_)
    refine ws (st_po (po_move rfl) rfl rfl rfl ?_)
    refine ws (st_po (po_move rfl) rfl rfl rfl ?_)
    refine ws (st_po (po_move rfl) rfl rfl rfl ?_)
    refine ws (st_po (po_move rfl) rfl rfl rfl ?_)
    refine ws (st_po (po_mul' rfl rfl (by omega) (by omega)) rfl rfl rfl ?_)
    refine ws (st_call (co_fn rfl rfl) (where_Global s.w s.h i (k * (sizeN s.w s.h i).1)) (by infer_instance) rfl rfl rfl ?_)
    rintro v41 _ ⟨rfl, rfl⟩
    try dsimp only [List.cons_append, List.nil_append, GridS.l, GridS.p]
    refine ws (st_po (po_assign rfl) rfl rfl rfl ?_)
    refine s_nil ?_
    refine at_then_wp ?_
    refine r_ord [12, 14] _ [(0, 1), (1, 0), (2, 1), (3, 1), (4, 1), (5, 1), (6, 0), (7, 1), (8, 1), (9, 1), (10, 1), (11, 0), (12, 2), (13, 1), (14, 2)] fc_mixed (by kernel_rfl) (fun _ h => h) ?_
    refine o_fr rfl (po_faddr rfl (by exact fc_field_41_2_2)) rfl rfl rfl ?_
    refine o_rd rfl (po_load rfl (by exact fc_flat_22) (by rfl)) (by first | exact fun _ h => h | exact ent) rfl rfl rfl ?_
    refine o_fr rfl (po_move rfl) rfl rfl rfl ?_
    refine o_fr rfl (po_nil rfl) rfl rfl rfl ?_
    refine o_fr rfl (po_faddr rfl (by exact fc_field_81_0_0)) rfl rfl rfl ?_
    refine o_fr rfl (po_faddr rfl (by exact fc_field_24_2_2)) rfl rfl rfl ?_
    refine o_rd rfl (po_load rfl (by exact fc_flat_22) (by rfl)) (by first | exact fun _ h => h | exact ent) rfl rfl rfl ?_
    refine o_fr rfl (po_move rfl) rfl rfl rfl ?_
    refine o_fr rfl (po_move rfl) rfl rfl rfl ?_
    refine o_fr rfl (po_move rfl) rfl rfl rfl ?_
    refine o_fr rfl (po_add' rfl rfl (by omega) (by omega)) rfl rfl rfl ?_
    refine o_rd rfl (po_slice_lh rfl rfl rfl (by exact fc_slice_22_5_1) (by first | omega | (simp only [List.length_nil, List.length_cons, List.length_append, List.length_replicate, List.length_set, List.length_map, List.length_take, List.length_drop]; omega)) (by first | omega | (simp only [List.length_nil, List.length_cons, List.length_append, List.length_replicate, List.length_set, List.length_map, List.length_take, List.length_drop]; omega)) (by first | omega | (simp only [List.length_nil, List.length_cons, List.length_append, List.length_replicate, List.length_set, List.length_map, List.length_take, List.length_drop]; omega))) (by first | exact fun _ h => h | exact ent) rfl rfl rfl ?_
    refine o_st rfl (st_xo (xo_append (m2 := rd_sub _ _ (by omega) (by omega)) rfl rfl (by exact fc_slice_22_5_1) (by exact fc_slice_22_5_1) (by exact fc_elem_5_1_1) (by simp only [List.length_drop, List.length_take]; omega) (by simp only [List.length_drop, List.length_take]; omega)) rfl rfl rfl ?_)
    rintro v54 _ rfl
    refine ⟨fun h => late_no h (by kernel_rfl), ?_⟩
    refine o_fr rfl (po_faddr rfl (by exact fc_field_41_2_2)) rfl rfl rfl ?_
    refine o_st rfl (st_so (so_store1 rfl rfl (by exact fc_flat_22) rfl) rfl rfl ?_)
    refine ⟨fun h => late_no h (by kernel_rfl), ?_⟩
    refine o_nil ?_
    refine at_block_normal ?_
    refine at_then_wp ?_
    refine r_reg ?_
    refine ws (st_po (po_add' rfl rfl (by omega) (by omega)) rfl rfl rfl ?_)
    refine ws (st_po (po_move rfl) rfl rfl rfl ?_)
    refine s_nil ?_
    rw [← rowN]
    exact at_again ((k + 1, v54, xs ++ rowN s.w s.h i s.c k)) (And.intro rfl (trivial)) (And.intro rfl (And.intro rfl (And.intro rfl (And.intro rfl (And.intro rfl (And.intro rfl (And.intro rfl (And.intro rfl (trivial))))))))) (⟨by omega, by rw [hxs, rowsN_succ]⟩) (by omega) ent
  · intro hlt
    have hke : k = (sizeN s.w s.h i).2.toNat := by omega
    subst hke hxs
    refine r_exit ?_
    refine at_then_exit ?_
    refine at_then_exit ?_
    refine at_block_here ?_
    refine at_then_wp ?_
    refine r_seq ?_
    refine r_reg ?_
    refine ws (st_po (po_loada rfl (by exact fc_agg_41_3) (by rfl)) rfl rfl rfl ?_)
    refine ws (st_so (so_storea1 rfl rfl (by exact fc_agg_41_3) rfl rfl) rfl rfl ?_)
    refine ws (st_po (po_assign rfl) rfl rfl rfl ?_)
    refine s_nil ?_
    refine at_then_wp ?_
    refine r_ret ?_
    refine at_ret2 rfl (rv_cella rfl (by exact fc_agg_41_3) (by rfl)) (rv_tmp rfl) ⟨_, ⟨cv, rfl, rfl⟩, ?_⟩
    try dsimp only [List.cons_append, List.nil_append, GridS.l, GridS.p]
    exact ent
theorem grid_Tile0 (s : GridS) (i : Int) (hi : ¬ IsS s.w s.h i) :
    Spec PP 17 #[s.p, .int .i64 i] s.l (fun v M => v = .tuple #[tileV (.slice none 0 0) ⟨0, 0, []⟩, .bool false] ∧ M = s.l) := by
  refine spec_of (Go.Proofs.Tryz.func17) rfl rfl rfl (by exact fc_enters_17) ?_
  intro g F
  try dsimp only [List.cons_append, List.nil_append, GridS.l, GridS.p]
  refine r_seq ?_
  refine r_reg ?_
  refine ws (st_xo (xo_alloc (by exact fc_zero_41)) rfl rfl rfl ?_)
  rintro _ _ ⟨b4, rfl, rfl⟩
  refine ws (st_po (po_assign rfl) rfl rfl rfl ?_)
  refine s_nil ?_
  refine at_then_wp ?_
  refine r_seq ?_
  refine r_reg ?_
  refine ws (st_po (po_move rfl) rfl rfl rfl ?_)
  refine ws (st_call (co_fn rfl rfl) (grid_Size s) (by infer_instance) rfl rfl rfl ?_)
  rintro v15 _ ⟨rfl, rfl⟩
  try dsimp only [List.cons_append, List.nil_append, GridS.l, GridS.p]
  refine ws (st_po (po_move rfl) rfl rfl rfl ?_)
  refine ws (st_po (po_extract rfl rfl) rfl rfl rfl ?_)
  refine ws (st_po (po_extract rfl rfl) rfl rfl rfl ?_)
  refine ws (st_po (po_assign rfl) rfl rfl rfl ?_)
  refine ws (st_po (po_assign rfl) rfl rfl rfl ?_)
  refine s_nil ?_
  refine at_then_wp ?_
  refine r_seq ?_
  refine r_reg ?_
  refine ws (st_po (po_move rfl) rfl rfl rfl ?_)
  refine ws (st_po (po_move rfl) rfl rfl rfl ?_)
  refine ws (st_po (po_move rfl) rfl rfl rfl ?_)
  refine ws (st_call (co_fn rfl rfl) (where_Size s.w s.h i) (by infer_instance) rfl rfl rfl ?_)
  rintro v22 _ ⟨rfl, rfl⟩
  try dsimp only [List.cons_append, List.nil_append, GridS.l, GridS.p]
  rw [sizeN, if_neg hi]
  refine ws (st_po (po_move rfl) rfl rfl rfl ?_)
  refine ws (st_po (po_extract rfl rfl) rfl rfl rfl ?_)
  refine ws (st_po (po_extract rfl rfl) rfl rfl rfl ?_)
  refine ws (st_po (po_assign rfl) rfl rfl rfl ?_)
  refine ws (st_po (po_assign rfl) rfl rfl rfl ?_)
  refine s_nil ?_
  refine at_then_wp ?_
  refine r_seq ?_
  refine r_seq ?_
  refine r_reg ?_
  refine ws (st_po (po_move rfl) rfl rfl rfl ?_)
  refine ws (st_po (po_eq rfl rfl) rfl rfl rfl ?_)
  refine s_nil ?_
  refine at_then_wp ?_
  first | refine r_dec_t rfl (rfl) ?_ | refine r_nd_t rfl (rfl) ?_ | refine r_cond_t rfl (rfl) ?_
  refine r_seq ?_
  refine r_reg ?_
  refine ws (st_po (po_build1 rfl (by exact fc_zero_41) (by exact fc_places_41) (by exact fc_info_41) rfl) rfl rfl rfl ?_)
  refine ws (st_so (so_storea1 rfl rfl (by exact fc_agg_41_3) rfl rfl) rfl rfl ?_)
  refine ws (st_po (po_assign rfl) rfl rfl rfl ?_)
  refine s_nil ?_
  refine at_then_wp ?_
  refine r_ret ?_
  refine at_then_ret ?_
  refine at_ret2 rfl (rv_cella rfl (by exact fc_agg_41_3) (by rfl)) (rv_tmp rfl) ⟨_, ⟨rfl, rfl⟩, ?_⟩
  try dsimp only [List.cons_append, List.nil_append, GridS.l, GridS.p]
  exact ent
end Hd
end
