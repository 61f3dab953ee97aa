/- Contracts of functions of the program, and the laws of memory that they are proved with: part 2. -/
import Derived.Shelf.SlSortCmp.WholeK
import Derived.Test.YtnaiebnnogkbnaaGreatProg
import Derived.Shelf.SlSortCmp.NoneTotal
import Derived.Test.YtnaiebnnogkbnaaGreatE1
set_option linter.unusedVariables false
set_option linter.unusedSimpArgs false
section
namespace Hd
set_option maxRecDepth 100000
open Go

theorem rng_succ {α : Type} (f : Nat → α) (k : Nat) : (List.range (k + 1)).map f = (List.range k).map f ++ [f k] := by simp [List.range_succ]

theorem border_sides : Spec PP 70 #[] [] (fun v M => v = .agg [.int .i64 0, .int .i64 1, .int .i64 2, .int .i64 3].toArray ∧ M = []) := by
  refine spec_of (Go.Proofs.Tryz.func70) rfl rfl rfl (by exact fc_enters_70) ?_
  intro g F
  try dsimp only [List.cons_append, List.nil_append, GridS.l, GridS.p]
  refine r_seq ?_
  refine r_reg ?_
  refine ws (st_xo (xo_alloc (by exact fc_zero_107)) rfl rfl rfl ?_)
  rintro _ _ ⟨b0, rfl, rfl⟩
  refine s_nil ?_
  refine at_then_wp ?_
  refine r_seq ?_
  refine r_reg ?_
  refine ws (st_po (po_build_arr eI [0, 1, 2, 3] (cs := [.int .i64 0, .int .i64 1, .int .i64 2, .int .i64 3]) rfl (by exact fc_arr_107_4_3_1) (by exact fc_zero_107) ⟨rfl, rfl, rfl, rfl, rfl, rfl, rfl, rfl, trivial⟩ rfl rfl) rfl rfl rfl ?_)
  refine ws (st_so (so_storea1 rfl rfl (by exact fc_agg_107_4) rfl rfl) rfl rfl ?_)
  refine s_nil ?_
  refine at_then_wp ?_
  refine r_ret ?_
  refine at_ret1 rfl (rv_cella rfl (by exact fc_agg_107_4) (by rfl)) ⟨_, ⟨rfl, rfl⟩, ?_⟩
  try dsimp only [List.cons_append, List.nil_append, GridS.l, GridS.p]
  exact ent
theorem nth_sides {k : Nat} (h : k < 4) : nth [Value.int .i64 0, .int .i64 1, .int .i64 2, .int .i64 3] ((k : Int).toNat * 1) = some (.int .i64 k) := by
  have : k = 0 ∨ k = 1 ∨ k = 2 ∨ k = 3 := by omega
  rcases this with e | e | e | e <;> subst e <;> rfl

/-- a side's locals -/
def alongN (tw th s : Int) : List Int :=
  if s = 2 then (List.range tw.toNat).map fun (x : Nat) => (th - 1) * tw + (x : Int)
  else if s = 0 then (List.range tw.toNat).map fun (x : Nat) => 0 + (x : Int)
  else if s = 1 then (List.range th.toNat).map fun (y : Nat) => tw - 1 + (y : Int) * tw
  else if s = 3 then (List.range th.toNat).map fun (y : Nat) => 0 + (y : Int) * tw
  else []
theorem border_along (tw th s : Int) (h0 : 0 ≤ tw ∧ tw ≤ 16) (h1 : 0 ≤ th ∧ th ≤ 16) : Spec PP 100 #[.int .i64 tw, .int .i64 th, .int .i64 s] [] (fun v M => M = [Sl eI v (alongN tw th s)]) := by
  refine spec_of (Go.Proofs.Tryz.func100) rfl rfl rfl (by exact fc_enters_100) ?_
  intro g F
  try dsimp only [List.cons_append, List.nil_append, GridS.l, GridS.p]
  refine r_seq ?_
  refine r_reg ?_
  refine ws (st_po (po_assign rfl) rfl rfl rfl ?_)
  refine s_nil ?_
  refine at_then_wp ?_
  refine r_seq ?_
  refine r_reg ?_
  refine ws (st_po (po_assign rfl) rfl rfl rfl ?_)
  refine s_nil ?_
  refine at_then_wp ?_
  refine r_seq ?_
  refine r_reg ?_
  refine ws (st_po (po_assign rfl) rfl rfl rfl ?_)
  refine s_nil ?_
  refine at_then_wp ?_
  refine r_seq ?_
  refine r_seq ?_
  refine r_reg ?_
  refine ws (st_po (po_move rfl) rfl rfl rfl ?_)
  refine s_nil ?_
  refine at_then_wp ?_
  refine r_block ?_
  refine r_seq ?_
  refine r_block ?_
  refine r_seq ?_
  refine r_block ?_
  refine r_seq ?_
  refine r_block ?_
  refine r_seq ?_
  refine r_block ?_
  refine r_seq ?_
  refine r_seq ?_
  refine r_seq ?_
  refine r_reg ?_
  refine ws (st_po (po_eq rfl rfl) rfl rfl rfl ?_)
  refine ws (st_po (po_assign rfl) rfl rfl rfl ?_)
  refine s_nil ?_
  refine at_then_wp ?_
  first | refine r_cond_not rfl ?_ ?_ | refine r_cond_dec rfl ?_ ?_ | refine r_cond rfl ?_ ?_
  · intro h2
    refine r_exit ?_
    refine at_then_exit ?_
    refine at_then_exit ?_
    refine at_block_here ?_
    refine at_then_wp ?_
    have hmul : -1 ≤ th - 1 ∧ th - 1 ≤ 15 ∧ -16 ≤ (th - 1) * tw ∧ (th - 1) * tw ≤ 256 := by have := mul_1k (a := th) (b := tw) (by omega) (by omega) (by omega) (by omega); rw [Int.sub_mul, Int.one_mul]; have : th * tw ≤ 16 * 16 := Int.mul_le_mul (by omega) (by omega) (by omega) (by omega); omega
    refine r_reg ?_
    refine ws (st_po (po_move rfl) rfl rfl rfl ?_)
    refine ws (st_po (po_sub' rfl rfl (by omega) (by omega)) rfl rfl rfl ?_)
    refine ws (st_po (po_move rfl) rfl rfl rfl ?_)
    refine ws (st_po (po_mul' rfl rfl (by omega) (by omega)) rfl rfl rfl ?_)
    refine ws (st_po (po_assign rfl) rfl rfl rfl ?_)
    refine s_nil ?_
    refine at_block_normal ?_
    refine at_then_wp ?_
    refine r_seq ?_
    refine r_seq ?_
    refine r_reg ?_
    refine ws (st_po (po_move rfl) rfl rfl rfl ?_)
    refine ws (st_po (po_move rfl) rfl rfl rfl ?_)
    refine s_nil ?_
    refine at_then_wp ?_
    refine r_block ?_
    refine r_loop (S := Nat × Value × List Int) (fun ⟨k, cv, xs⟩ => [(7, cv), (25, .int .i64 k)]) [(8, _), (24, _)] (fun ⟨k, cv, xs⟩ => [Sl eI cv xs, F]) (fun ⟨k, cv, xs⟩ => (k : Int) ≤ tw ∧ xs = (List.range k).map fun (x : Nat) => (th - 1) * tw + (x : Int)) (fun ⟨k, cv, xs⟩ => tw.toNat - k) ((0, .slice none 0 0, [])) (And.intro rfl (And.intro rfl (trivial))) (And.intro rfl (And.intro rfl (trivial))) (⟨by omega, rfl⟩) ent ?_
    rintro ⟨k, cv, xs⟩ ⟨hk, hxs⟩
    try dsimp only
    have hxl : xs.length = k := by rw [hxs]; simp
    refine r_seq ?_
    refine r_reg ?_
    refine ws (st_po (po_lt rfl rfl) rfl rfl rfl ?_)
    refine s_nil ?_
    refine at_then_wp ?_
    refine r_seq ?_
    first | refine r_cond_not rfl ?_ ?_ | refine r_cond_dec rfl ?_ ?_ | refine r_cond rfl ?_ ?_
    · intro hlt
      refine r_skip ?_
      refine at_then_wp ?_
      refine r_seq ?_
      refine r_block ?_
      refine r_seq ?_
      refine r_reg ?_
      refine ws (st_po (po_move rfl) rfl rfl rfl ?_)
      refine ws (st_po (po_assign rfl) rfl rfl rfl ?_)
      refine s_nil ?_
      refine at_then_wp ?_
      refine r_reg ?_
      refine ws (st_po (po_move rfl) rfl rfl rfl ?_)
      refine ws (st_po (po_move rfl) rfl rfl rfl ?_)
      refine ws (st_po (po_move rfl) rfl rfl rfl ?_)
      refine ws (st_po (po_add' rfl rfl (by omega) (by omega)) rfl rfl rfl ?_)
      refine ws (st_xo (xo_bslice eI [_] rfl (by exact fc_slice_35_3_1) (by exact fc_elem_3_1_8) ⟨rfl, rfl, trivial⟩ rfl (by decide)) rfl rfl rfl ?_)
      rintro v32 _ rfl
      refine ws (st_xo (xo_append rfl rfl (by exact fc_slice_35_3_1) (by exact fc_slice_35_3_1) (by exact fc_elem_3_1_8) (by first | omega | (simp only [List.length_nil, List.length_cons, List.length_append, List.length_replicate, List.length_set, List.length_map, List.length_take, List.length_drop]; omega)) (by first | omega | (simp only [List.length_nil, List.length_cons, List.length_append, List.length_replicate, List.length_set, List.length_map, List.length_take, List.length_drop]; omega))) rfl rfl rfl ?_)
      rintro v33 _ rfl
      refine ws (st_po (po_assign rfl) rfl rfl rfl ?_)
      refine s_nil ?_
      refine at_block_normal ?_
      refine at_then_wp ?_
      refine r_reg ?_
      refine ws (st_po (po_add' rfl rfl (by omega) (by omega)) rfl rfl rfl ?_)
      refine ws (st_po (po_move rfl) rfl rfl rfl ?_)
      refine s_nil ?_
      exact at_again ((k + 1, v33, xs ++ [(th - 1) * tw + (k : Int)])) (And.intro rfl (And.intro rfl (trivial))) (And.intro rfl (And.intro rfl (trivial))) (⟨by omega, by rw [rng_succ, hxs]⟩) (by omega) ent
    · intro hlt
      refine r_exit ?_
      refine at_then_exit ?_
      refine at_then_exit ?_
      refine at_block_here ?_
      refine at_then_wp ?_
      refine r_exit ?_
      refine at_block_there rfl ?_
      refine at_then_exit ?_
      refine at_block_there rfl ?_
      refine at_then_exit ?_
      refine at_block_here ?_
      refine at_then_wp ?_
      refine r_seq ?_
      refine r_reg ?_
      refine ws (st_po (po_move rfl) rfl rfl rfl ?_)
      refine ws (st_po (po_assign rfl) rfl rfl rfl ?_)
      refine s_nil ?_
      refine at_then_wp ?_
      refine r_ret ?_
      have hke : k = tw.toNat := by omega
      subst hke
      have e : xs = alongN tw th s := by rw [alongN, if_pos h2, hxs]
      subst e
      refine at_ret1 rfl (rv_tmp rfl) ⟨_, rfl, ?_⟩
      try dsimp only [List.cons_append, List.nil_append, GridS.l, GridS.p]
      exact ent
  · intro h2
    refine r_skip ?_
    refine at_then_wp ?_
    refine r_seq ?_
    refine r_seq ?_
    refine r_reg ?_
    refine ws (st_po (po_eq rfl rfl) rfl rfl rfl ?_)
    refine ws (st_po (po_assign rfl) rfl rfl rfl ?_)
    refine s_nil ?_
    refine at_then_wp ?_
    first | refine r_cond_not rfl ?_ ?_ | refine r_cond_dec rfl ?_ ?_ | refine r_cond rfl ?_ ?_
    · intro h3
      refine r_exit ?_
      refine at_then_exit ?_
      refine at_then_exit ?_
      refine at_block_there rfl ?_
      refine at_then_exit ?_
      refine at_block_here ?_
      refine at_then_wp ?_
      refine r_seq ?_
      refine r_seq ?_
      refine r_reg ?_
      refine ws (st_po (po_move rfl) rfl rfl rfl ?_)
      refine ws (st_po (po_move rfl) rfl rfl rfl ?_)
      refine s_nil ?_
      refine at_then_wp ?_
      refine r_block ?_
      refine r_loop (S := Nat × Value × List Int) (fun ⟨k, cv, xs⟩ => [(7, cv), (25, .int .i64 k)]) [(8, _), (24, _)] (fun ⟨k, cv, xs⟩ => [Sl eI cv xs, F]) (fun ⟨k, cv, xs⟩ => (k : Int) ≤ tw ∧ xs = (List.range k).map fun (x : Nat) => 0 + (x : Int)) (fun ⟨k, cv, xs⟩ => tw.toNat - k) ((0, .slice none 0 0, [])) (And.intro rfl (And.intro rfl (trivial))) (And.intro rfl (And.intro rfl (trivial))) (⟨by omega, rfl⟩) ent ?_
      rintro ⟨k, cv, xs⟩ ⟨hk, hxs⟩
      try dsimp only
      have hxl : xs.length = k := by rw [hxs]; simp
      refine r_seq ?_
      refine r_reg ?_
      refine ws (st_po (po_lt rfl rfl) rfl rfl rfl ?_)
      refine s_nil ?_
      refine at_then_wp ?_
      refine r_seq ?_
      first | refine r_cond_not rfl ?_ ?_ | refine r_cond_dec rfl ?_ ?_ | refine r_cond rfl ?_ ?_
      · intro hlt
        refine r_skip ?_
        refine at_then_wp ?_
        refine r_seq ?_
        refine r_block ?_
        refine r_seq ?_
        refine r_reg ?_
        refine ws (st_po (po_move rfl) rfl rfl rfl ?_)
        refine ws (st_po (po_assign rfl) rfl rfl rfl ?_)
        refine s_nil ?_
        refine at_then_wp ?_
        refine r_reg ?_
        refine ws (st_po (po_move rfl) rfl rfl rfl ?_)
        refine ws (st_po (po_move rfl) rfl rfl rfl ?_)
        refine ws (st_po (po_move rfl) rfl rfl rfl ?_)
        refine ws (st_po (po_add' rfl rfl (by omega) (by omega)) rfl rfl rfl ?_)
        refine ws (st_xo (xo_bslice eI [_] rfl (by exact fc_slice_35_3_1) (by exact fc_elem_3_1_8) ⟨rfl, rfl, trivial⟩ rfl (by decide)) rfl rfl rfl ?_)
        rintro v32 _ rfl
        refine ws (st_xo (xo_append rfl rfl (by exact fc_slice_35_3_1) (by exact fc_slice_35_3_1) (by exact fc_elem_3_1_8) (by first | omega | (simp only [List.length_nil, List.length_cons, List.length_append, List.length_replicate, List.length_set, List.length_map, List.length_take, List.length_drop]; omega)) (by first | omega | (simp only [List.length_nil, List.length_cons, List.length_append, List.length_replicate, List.length_set, List.length_map, List.length_take, List.length_drop]; omega))) rfl rfl rfl ?_)
        rintro v33 _ rfl
        refine ws (st_po (po_assign rfl) rfl rfl rfl ?_)
        refine s_nil ?_
        refine at_block_normal ?_
        refine at_then_wp ?_
        refine r_reg ?_
        refine ws (st_po (po_add' rfl rfl (by omega) (by omega)) rfl rfl rfl ?_)
        refine ws (st_po (po_move rfl) rfl rfl rfl ?_)
        refine s_nil ?_
        exact at_again ((k + 1, v33, xs ++ [0 + (k : Int)])) (And.intro rfl (And.intro rfl (trivial))) (And.intro rfl (And.intro rfl (trivial))) (⟨by omega, by rw [rng_succ, hxs]⟩) (by omega) ent
      · intro hlt
        refine r_exit ?_
        refine at_then_exit ?_
        refine at_then_exit ?_
        refine at_block_here ?_
        refine at_then_wp ?_
        refine r_exit ?_
        refine at_block_there rfl ?_
        refine at_then_exit ?_
        refine at_block_there rfl ?_
        refine at_then_exit ?_
        refine at_block_here ?_
        refine at_then_wp ?_
        refine r_seq ?_
        refine r_reg ?_
        refine ws (st_po (po_move rfl) rfl rfl rfl ?_)
        refine ws (st_po (po_assign rfl) rfl rfl rfl ?_)
        refine s_nil ?_
        refine at_then_wp ?_
        refine r_ret ?_
        have hke : k = tw.toNat := by omega
        subst hke
        have e : xs = alongN tw th s := by rw [alongN, if_neg h2, if_pos h3, hxs]
        subst e
        refine at_ret1 rfl (rv_tmp rfl) ⟨_, rfl, ?_⟩
        try dsimp only [List.cons_append, List.nil_append, GridS.l, GridS.p]
        exact ent
    · intro h3
      refine r_skip ?_
      refine at_then_wp ?_
      refine r_seq ?_
      refine r_seq ?_
      refine r_reg ?_
      refine ws (st_po (po_eq rfl rfl) rfl rfl rfl ?_)
      refine ws (st_po (po_assign rfl) rfl rfl rfl ?_)
      refine s_nil ?_
      refine at_then_wp ?_
      first | refine r_cond_not rfl ?_ ?_ | refine r_cond_dec rfl ?_ ?_ | refine r_cond rfl ?_ ?_
      · intro h4
        refine r_exit ?_
        refine at_then_exit ?_
        refine at_then_exit ?_
        refine at_block_there rfl ?_
        refine at_then_exit ?_
        refine at_block_there rfl ?_
        refine at_then_exit ?_
        refine at_block_here ?_
        refine at_then_wp ?_
        refine r_reg ?_
        refine ws (st_po (po_move rfl) rfl rfl rfl ?_)
        refine ws (st_po (po_sub' rfl rfl (by omega) (by omega)) rfl rfl rfl ?_)
        refine ws (st_po (po_assign rfl) rfl rfl rfl ?_)
        refine s_nil ?_
        refine at_block_normal ?_
        refine at_then_wp ?_
        refine r_seq ?_
        refine r_seq ?_
        refine r_reg ?_
        refine ws (st_po (po_move rfl) rfl rfl rfl ?_)
        refine ws (st_po (po_move rfl) rfl rfl rfl ?_)
        refine s_nil ?_
        refine at_then_wp ?_
        refine r_block ?_
        refine r_loop (S := Nat × Value × List Int) (fun ⟨k, cv, xs⟩ => [(7, cv), (38, .int .i64 k)]) [(0, _), (8, _), (37, _)] (fun ⟨k, cv, xs⟩ => [Sl eI cv xs, F]) (fun ⟨k, cv, xs⟩ => (k : Int) ≤ th ∧ xs = (List.range k).map fun (y : Nat) => tw - 1 + (y : Int) * tw) (fun ⟨k, cv, xs⟩ => th.toNat - k) ((0, .slice none 0 0, [])) (And.intro rfl (And.intro rfl (And.intro rfl (trivial)))) (And.intro rfl (And.intro rfl (trivial))) (⟨by omega, rfl⟩) ent ?_
        rintro ⟨k, cv, xs⟩ ⟨hk, hxs⟩
        try dsimp only
        have hxl : xs.length = k := by rw [hxs]; simp
        have hmul := mul_1k (a := (k : Int)) (b := tw) (by omega) (by omega) (by omega) (by omega)
        refine r_seq ?_
        refine r_reg ?_
        refine ws (st_po (po_lt rfl rfl) rfl rfl rfl ?_)
        refine s_nil ?_
        refine at_then_wp ?_
        refine r_seq ?_
        first | refine r_cond_not rfl ?_ ?_ | refine r_cond_dec rfl ?_ ?_ | refine r_cond rfl ?_ ?_
        · intro hlt
          refine r_skip ?_
          refine at_then_wp ?_
          refine r_seq ?_
          refine r_block ?_
          refine r_seq ?_
          refine r_reg ?_
          refine ws (st_po (po_move rfl) rfl rfl rfl ?_)
          refine ws (st_po (po_assign rfl) rfl rfl rfl ?_)
          refine s_nil ?_
          refine at_then_wp ?_
          refine r_reg ?_
          refine ws (st_po (po_move rfl) rfl rfl rfl ?_)
          refine ws (st_po (po_move rfl) rfl rfl rfl ?_)
          refine ws (st_po (po_move rfl) rfl rfl rfl ?_)
          refine ws (st_po (po_move rfl) rfl rfl rfl ?_)
          refine ws (st_po (po_mul' rfl rfl (by omega) (by omega)) rfl rfl rfl ?_)
          refine ws (st_po (po_add' rfl rfl (by omega) (by omega)) rfl rfl rfl ?_)
          refine ws (st_xo (xo_bslice eI [_] rfl (by exact fc_slice_35_3_1) (by exact fc_elem_3_1_8) ⟨rfl, rfl, trivial⟩ rfl (by decide)) rfl rfl rfl ?_)
          rintro v47 _ rfl
          refine ws (st_xo (xo_append rfl rfl (by exact fc_slice_35_3_1) (by exact fc_slice_35_3_1) (by exact fc_elem_3_1_8) (by first | omega | (simp only [List.length_nil, List.length_cons, List.length_append, List.length_replicate, List.length_set, List.length_map, List.length_take, List.length_drop]; omega)) (by first | omega | (simp only [List.length_nil, List.length_cons, List.length_append, List.length_replicate, List.length_set, List.length_map, List.length_take, List.length_drop]; omega))) rfl rfl rfl ?_)
          rintro v48 _ rfl
          refine ws (st_po (po_assign rfl) rfl rfl rfl ?_)
          refine s_nil ?_
          refine at_block_normal ?_
          refine at_then_wp ?_
          refine r_reg ?_
          refine ws (st_po (po_add' rfl rfl (by omega) (by omega)) rfl rfl rfl ?_)
          refine ws (st_po (po_move rfl) rfl rfl rfl ?_)
          refine s_nil ?_
          exact at_again ((k + 1, v48, xs ++ [tw - 1 + (k : Int) * tw])) (And.intro rfl (And.intro rfl (trivial))) (And.intro rfl (And.intro rfl (And.intro rfl (trivial)))) (⟨by omega, by rw [rng_succ, hxs]⟩) (by omega) ent
        · intro hlt
          refine r_exit ?_
          refine at_then_exit ?_
          refine at_then_exit ?_
          refine at_block_here ?_
          refine at_then_wp ?_
          refine r_exit ?_
          refine at_block_here ?_
          refine at_then_wp ?_
          refine r_seq ?_
          refine r_reg ?_
          refine ws (st_po (po_move rfl) rfl rfl rfl ?_)
          refine ws (st_po (po_assign rfl) rfl rfl rfl ?_)
          refine s_nil ?_
          refine at_then_wp ?_
          refine r_ret ?_
          have hke : k = th.toNat := by omega
          subst hke
          have e : xs = alongN tw th s := by rw [alongN, if_neg h2, if_neg h3, if_pos h4, hxs]
          subst e
          refine at_ret1 rfl (rv_tmp rfl) ⟨_, rfl, ?_⟩
          try dsimp only [List.cons_append, List.nil_append, GridS.l, GridS.p]
          exact ent
      · intro h4
        refine r_skip ?_
        refine at_then_wp ?_
        refine r_seq ?_
        refine r_reg ?_
        refine ws (st_po (po_eq rfl rfl) rfl rfl rfl ?_)
        refine ws (st_po (po_assign rfl) rfl rfl rfl ?_)
        refine s_nil ?_
        refine at_then_wp ?_
        first | refine r_cond_not rfl ?_ ?_ | refine r_cond_dec rfl ?_ ?_ | refine r_cond rfl ?_ ?_
        · intro h5
          refine r_exit ?_
          refine at_then_exit ?_
          refine at_block_there rfl ?_
          refine at_then_exit ?_
          refine at_block_there rfl ?_
          refine at_then_exit ?_
          refine at_block_there rfl ?_
          refine at_then_exit ?_
          refine at_block_here ?_
          refine at_then_wp ?_
          refine r_seq ?_
          refine r_seq ?_
          refine r_reg ?_
          refine ws (st_po (po_move rfl) rfl rfl rfl ?_)
          refine ws (st_po (po_move rfl) rfl rfl rfl ?_)
          refine s_nil ?_
          refine at_then_wp ?_
          refine r_block ?_
          refine r_loop (S := Nat × Value × List Int) (fun ⟨k, cv, xs⟩ => [(7, cv), (38, .int .i64 k)]) [(0, _), (8, _), (37, _)] (fun ⟨k, cv, xs⟩ => [Sl eI cv xs, F]) (fun ⟨k, cv, xs⟩ => (k : Int) ≤ th ∧ xs = (List.range k).map fun (y : Nat) => 0 + (y : Int) * tw) (fun ⟨k, cv, xs⟩ => th.toNat - k) ((0, .slice none 0 0, [])) (And.intro rfl (And.intro rfl (And.intro rfl (trivial)))) (And.intro rfl (And.intro rfl (trivial))) (⟨by omega, rfl⟩) ent ?_
          rintro ⟨k, cv, xs⟩ ⟨hk, hxs⟩
          try dsimp only
          have hxl : xs.length = k := by rw [hxs]; simp
          have hmul := mul_1k (a := (k : Int)) (b := tw) (by omega) (by omega) (by omega) (by omega)
          refine r_seq ?_
          refine r_reg ?_
          refine ws (st_po (po_lt rfl rfl) rfl rfl rfl ?_)
          refine s_nil ?_
          refine at_then_wp ?_
          refine r_seq ?_
          first | refine r_cond_not rfl ?_ ?_ | refine r_cond_dec rfl ?_ ?_ | refine r_cond rfl ?_ ?_
          · intro hlt
            refine r_skip ?_
            refine at_then_wp ?_
            refine r_seq ?_
            refine r_block ?_
            refine r_seq ?_
            refine r_reg ?_
            refine ws (st_po (po_move rfl) rfl rfl rfl ?_)
            refine ws (st_po (po_assign rfl) rfl rfl rfl ?_)
            refine s_nil ?_
            refine at_then_wp ?_
            refine r_reg ?_
            refine ws (st_po (po_move rfl) rfl rfl rfl ?_)
            refine ws (st_po (po_move rfl) rfl rfl rfl ?_)
            refine ws (st_po (po_move rfl) rfl rfl rfl ?_)
            refine ws (st_po (po_move rfl) rfl rfl rfl ?_)
            refine ws (st_po (po_mul' rfl rfl (by omega) (by omega)) rfl rfl rfl ?_)
            refine ws (st_po (po_add' rfl rfl (by omega) (by omega)) rfl rfl rfl ?_)
            refine ws (st_xo (xo_bslice eI [_] rfl (by exact fc_slice_35_3_1) (by exact fc_elem_3_1_8) ⟨rfl, rfl, trivial⟩ rfl (by decide)) rfl rfl rfl ?_)
            rintro v47 _ rfl
            refine ws (st_xo (xo_append rfl rfl (by exact fc_slice_35_3_1) (by exact fc_slice_35_3_1) (by exact fc_elem_3_1_8) (by first | omega | (simp only [List.length_nil, List.length_cons, List.length_append, List.length_replicate, List.length_set, List.length_map, List.length_take, List.length_drop]; omega)) (by first | omega | (simp only [List.length_nil, List.length_cons, List.length_append, List.length_replicate, List.length_set, List.length_map, List.length_take, List.length_drop]; omega))) rfl rfl rfl ?_)
            rintro v48 _ rfl
            refine ws (st_po (po_assign rfl) rfl rfl rfl ?_)
            refine s_nil ?_
            refine at_block_normal ?_
            refine at_then_wp ?_
            refine r_reg ?_
            refine ws (st_po (po_add' rfl rfl (by omega) (by omega)) rfl rfl rfl ?_)
            refine ws (st_po (po_move rfl) rfl rfl rfl ?_)
            refine s_nil ?_
            exact at_again ((k + 1, v48, xs ++ [0 + (k : Int) * tw])) (And.intro rfl (And.intro rfl (trivial))) (And.intro rfl (And.intro rfl (And.intro rfl (trivial)))) (⟨by omega, by rw [rng_succ, hxs]⟩) (by omega) ent
          · intro hlt
            refine r_exit ?_
            refine at_then_exit ?_
            refine at_then_exit ?_
            refine at_block_here ?_
            refine at_then_wp ?_
            refine r_exit ?_
            refine at_block_here ?_
            refine at_then_wp ?_
            refine r_seq ?_
            refine r_reg ?_
            refine ws (st_po (po_move rfl) rfl rfl rfl ?_)
            refine ws (st_po (po_assign rfl) rfl rfl rfl ?_)
            refine s_nil ?_
            refine at_then_wp ?_
            refine r_ret ?_
            have hke : k = th.toNat := by omega
            subst hke
            have e : xs = alongN tw th s := by rw [alongN, if_neg h2, if_neg h3, if_neg h4, if_pos h5, hxs]
            subst e
            refine at_ret1 rfl (rv_tmp rfl) ⟨_, rfl, ?_⟩
            try dsimp only [List.cons_append, List.nil_append, GridS.l, GridS.p]
            exact ent
        · intro h5
          refine r_skip ?_
          refine at_then_wp ?_
          refine r_exit ?_
          refine at_block_there rfl ?_
          refine at_then_exit ?_
          refine at_block_there rfl ?_
          refine at_then_exit ?_
          refine at_block_there rfl ?_
          refine at_then_exit ?_
          refine at_block_there rfl ?_
          refine at_then_exit ?_
          refine at_block_here ?_
          refine at_then_wp ?_
          refine r_seq ?_
          refine r_reg ?_
          refine ws (st_po (po_move rfl) rfl rfl rfl ?_)
          refine ws (st_po (po_assign rfl) rfl rfl rfl ?_)
          refine s_nil ?_
          refine at_then_wp ?_
          refine r_ret ?_
          have e : [] = alongN tw th s := by rw [alongN, if_neg h2, if_neg h3, if_neg h4, if_neg h5]
          refine at_ret1 rfl (rv_tmp rfl) ⟨_, (by rw [← e]), ?_⟩
          try dsimp only [List.cons_append, List.nil_append, GridS.l, GridS.p]
          exact ent

/-- 11.1: the cell of another sector over a side -/
def overN (w h c s : Int) : Int := if stepN w h c s < 0 ∨ sectorN w h (stepN w h c s) = sectorN w h c then -1 else stepN w h c s
theorem border_over (w h c s : Int) : Spec PP 71 #[.int .i64 w, .int .i64 h, .int .i64 c, .int .i64 s] [] (fun v M => v = .int .i64 (overN w h c s) ∧ M = []) := by
  refine spec_of (Go.Proofs.Tryz.func71) rfl rfl rfl (by exact fc_enters_71) ?_
  intro g F
  try dsimp only [List.cons_append, List.nil_append, GridS.l, GridS.p]
  refine r_seq ?_
  refine r_reg ?_
  refine ws (st_po (po_assign rfl) rfl rfl rfl ?_)
  refine s_nil ?_
  refine at_then_wp ?_
  refine r_seq ?_
  refine r_reg ?_
  refine ws (st_po (po_move rfl) rfl rfl rfl ?_)
  refine ws (st_po (po_move rfl) rfl rfl rfl ?_)
  refine ws (st_po (po_move rfl) rfl rfl rfl ?_)
  refine ws (st_po (po_move rfl) rfl rfl rfl ?_)
  refine ws (st_call (co_fn rfl rfl) (where_Step w h c s) (by infer_instance) rfl rfl rfl ?_)
  rintro v14 _ ⟨rfl, rfl⟩
  try dsimp only [List.cons_append, List.nil_append, GridS.l, GridS.p]
  refine ws (st_po (po_assign rfl) rfl rfl rfl ?_)
  refine s_nil ?_
  refine at_then_wp ?_
  refine r_seq ?_
  refine r_seq ?_
  refine r_reg ?_
  refine ws (st_po (po_move rfl) rfl rfl rfl ?_)
  refine ws (st_po (po_lt rfl rfl) rfl rfl rfl ?_)
  by_cases h1 : stepN w h c s < 0
  · skip
    refine ws (st_po (po_bt (po_move rfl) (decide_eq_true h1)) rfl rfl rfl ?_)
    refine ws (st_no rfl rfl rfl ?_)
    refine ws (st_no rfl rfl rfl ?_)
    refine ws (st_no rfl rfl rfl ?_)
    refine ws (st_no rfl rfl rfl ?_)
    refine ws (st_no rfl rfl rfl ?_)
    refine ws (st_no rfl rfl rfl ?_)
    refine ws (st_no rfl rfl rfl ?_)
    refine ws (st_no rfl rfl rfl ?_)
    refine ws (st_no rfl rfl rfl ?_)
    refine ws (st_po (po_pick_t rfl rfl) rfl rfl rfl ?_)
    refine s_nil ?_
    refine at_then_wp ?_
    refine r_cond_t rfl rfl ?_
    refine r_seq ?_
    refine r_reg ?_
    refine ws (st_po (po_assign rfl) rfl rfl rfl ?_)
    refine s_nil ?_
    refine at_then_wp ?_
    refine r_ret ?_
    refine at_then_ret ?_
    refine at_ret1 rfl (rv_tmp rfl) ⟨_, ⟨by rw [overN, if_pos (.inl h1)], rfl⟩, ?_⟩
    try dsimp only [List.cons_append, List.nil_append, GridS.l, GridS.p]
    exact ent
  · skip
    refine ws (st_po (po_bf (po_move rfl) (decide_eq_false h1)) rfl rfl rfl ?_)
    refine ws (st_po (po_move rfl) rfl rfl rfl ?_)
    refine ws (st_po (po_move rfl) rfl rfl rfl ?_)
    refine ws (st_po (po_move rfl) rfl rfl rfl ?_)
    refine ws (st_call (co_fn rfl rfl) (where_Sector w h (stepN w h c s)) (by infer_instance) rfl rfl rfl ?_)
    rintro v21 _ ⟨rfl, rfl⟩
    try dsimp only [List.cons_append, List.nil_append, GridS.l, GridS.p]
    refine ws (st_po (po_move rfl) rfl rfl rfl ?_)
    refine ws (st_po (po_move rfl) rfl rfl rfl ?_)
    refine ws (st_po (po_move rfl) rfl rfl rfl ?_)
    refine ws (st_call (co_fn rfl rfl) (where_Sector w h c) (by infer_instance) rfl rfl rfl ?_)
    rintro v25 _ ⟨rfl, rfl⟩
    try dsimp only [List.cons_append, List.nil_append, GridS.l, GridS.p]
    refine ws (st_po (po_eq rfl rfl) rfl rfl rfl ?_)
    refine ws (st_po (po_pick_f rfl rfl) rfl rfl rfl ?_)
    refine s_nil ?_
    refine at_then_wp ?_
    first | refine r_cond_not rfl ?_ ?_ | refine r_cond_dec rfl ?_ ?_ | refine r_cond rfl ?_ ?_
    · intro h2
      refine r_seq ?_
      refine r_reg ?_
      refine ws (st_po (po_assign rfl) rfl rfl rfl ?_)
      refine s_nil ?_
      refine at_then_wp ?_
      refine r_ret ?_
      refine at_then_ret ?_
      refine at_ret1 rfl (rv_tmp rfl) ⟨_, ⟨by rw [overN, if_pos (.inr h2)], rfl⟩, ?_⟩
      try dsimp only [List.cons_append, List.nil_append, GridS.l, GridS.p]
      exact ent
    · intro h2
      refine r_skip ?_
      refine at_then_wp ?_
      refine r_seq ?_
      refine r_reg ?_
      refine ws (st_po (po_move rfl) rfl rfl rfl ?_)
      refine ws (st_po (po_assign rfl) rfl rfl rfl ?_)
      refine s_nil ?_
      refine at_then_wp ?_
      refine r_ret ?_
      refine at_ret1 rfl (rv_tmp rfl) ⟨_, ⟨by rw [overN, if_neg (by rintro (h | h); exact h1 h; exact h2 h)], rfl⟩, ?_⟩
      try dsimp only [List.cons_append, List.nil_append, GridS.l, GridS.p]
      exact ent

/-- is it an open cell? -/
def openN (c : List Int) (i : Int) : Prop := 0 < costN c i ∧ costN c i < 255
instance (c : List Int) (i : Int) : Decidable (openN c i) := by unfold openN; infer_instance
theorem border_open (s : GridS) (i : Int) (hc : Bytes s.c) : Spec PP 69 #[s.p, .int .i64 i] s.l (fun v M => v = .bool (decide (openN s.c i)) ∧ M = s.l) := by
  refine spec_of (Go.Proofs.Tryz.func69) rfl rfl rfl (by exact fc_enters_69) ?_
  intro g F
  try dsimp only [List.cons_append, List.nil_append, GridS.l, GridS.p]
  refine r_seq ?_
  refine r_reg ?_
  refine ws (st_po (po_assign rfl) rfl rfl rfl ?_)
  refine s_nil ?_
  refine at_then_wp ?_
  refine r_seq ?_
  refine r_reg ?_
  refine ws (st_po (po_move rfl) rfl rfl rfl ?_)
  refine ws (st_po (po_move rfl) rfl rfl rfl ?_)
  refine ws (st_call (co_fn rfl rfl) (grid_Cost s i hc) (by infer_instance) rfl rfl rfl ?_)
  rintro v8 _ ⟨rfl, rfl⟩
  try dsimp only [List.cons_append, List.nil_append, GridS.l, GridS.p]
  refine ws (st_po (po_assign rfl) rfl rfl rfl ?_)
  refine s_nil ?_
  refine at_then_wp ?_
  refine r_seq ?_
  refine r_reg ?_
  refine ws (st_po (po_move rfl) rfl rfl rfl ?_)
  refine ws (st_po (po_gt rfl rfl) rfl rfl rfl ?_)
  by_cases h1 : 0 < costN s.c i
  · skip
    refine ws (st_po (po_bt (po_move rfl) (decide_eq_true h1)) rfl rfl rfl ?_)
    refine ws (st_po (po_move rfl) rfl rfl rfl ?_)
    refine ws (st_po (po_lt rfl rfl) rfl rfl rfl ?_)
    refine ws (st_po (po_pick_t rfl rfl) rfl rfl rfl ?_)
    refine ws (st_po (po_assign rfl) rfl rfl rfl ?_)
    refine s_nil ?_
    refine at_then_wp ?_
    refine r_ret ?_
    refine at_ret1 rfl (rv_tmp rfl) ⟨_, ⟨by simp [openN, h1], rfl⟩, ?_⟩
    try dsimp only [List.cons_append, List.nil_append, GridS.l, GridS.p]
    exact ent
  · skip
    refine ws (st_po (po_bf (po_move rfl) (decide_eq_false h1)) rfl rfl rfl ?_)
    refine ws (st_no rfl rfl rfl ?_)
    refine ws (st_no rfl rfl rfl ?_)
    refine ws (st_po (po_pick_f rfl rfl) rfl rfl rfl ?_)
    refine ws (st_po (po_assign rfl) rfl rfl rfl ?_)
    refine s_nil ?_
    refine at_then_wp ?_
    refine r_ret ?_
    refine at_ret1 rfl (rv_tmp rfl) ⟨_, ⟨by simp [openN, h1], rfl⟩, ?_⟩
    try dsimp only [List.cons_append, List.nil_append, GridS.l, GridS.p]
    exact ent
end Hd
end
section
namespace Hd
open Go
theorem sec_eq {w h c d : Int} (k : IsC w h c) (j : IsC w h d) : sectorN w h c = sectorN w h d ↔ c % w / 16 = d % w / 16 ∧ c / w / 16 = d / w / 16 := by
  have hc := sector_lt k
  have hd := sector_lt j
  constructor
  · intro e; rw [← hc.2.1, ← hc.2.2, e, hd.2.1, hd.2.2]; exact ⟨rfl, rfl⟩
  · rintro ⟨e1, e2⟩; rw [sectorN, if_pos k, sectorN, if_pos j, e1, e2]
theorem step_ok {w h c s : Int} (k : IsC w h c) (h0 : 0 ≤ s) (h1 : s ≤ 4) :
    (0 ≤ stepN w h c s ↔ (0 ≤ c % w + dx s ∧ c % w + dx s < w) ∧ (0 ≤ c / w + dy s ∧ c / w + dy s < h)) ∧
    (0 ≤ stepN w h c s → IsC w h (stepN w h c s) ∧ stepN w h c s % w = c % w + dx s ∧ stepN w h c s / w = c / w + dy s) := by
  rw [step_eq k h0 h1]
  constructor
  · constructor
    · intro e; exact ⟨(cell_is e).1.2.1, (cell_is e).1.2.2⟩
    · rintro ⟨e1, e2⟩
      have := mk_is k.1 e1 e2
      rw [cellN, if_pos ⟨k.1, e1, e2⟩]; exact this.2.1
  · intro e; exact (cell_is e).2
theorem over_ge {w h c s : Int} : 0 ≤ overN w h c s ↔ 0 ≤ stepN w h c s ∧ sectorN w h (stepN w h c s) ≠ sectorN w h c := by
  unfold overN
  split
  · rename_i e; constructor
    · intro f; omega
    · rintro ⟨f1, f2⟩; rcases e with e | e
      · omega
      · exact absurd e f2
  · rename_i e
    have e1 : ¬ stepN w h c s < 0 := fun x => e (.inl x)
    have e2 : ¬ sectorN w h (stepN w h c s) = sectorN w h c := fun x => e (.inr x)
    exact ⟨fun _ => ⟨by omega, e2⟩, fun _ => by omega⟩
theorem over_eq {w h c s : Int} (e : 0 ≤ overN w h c s) : overN w h c s = stepN w h c s := by
  unfold overN at *
  split at e
  · omega
  · rename_i f; rw [if_neg f]
theorem over_m1 {w h c s : Int} (e : ¬ 0 ≤ overN w h c s) : overN w h c s = -1 := by
  unfold overN at *
  split at e
  · rename_i f; rw [if_pos f]
  · rename_i f
    have e1 : ¬ stepN w h c s < 0 := fun x => f (.inl x)
    omega
theorem over_xy {w h c s : Int} (k : IsC w h c) (h0 : 0 ≤ s) (h1 : s ≤ 4) :
    0 ≤ overN w h c s ↔ ((0 ≤ c % w + dx s ∧ c % w + dx s < w) ∧ (0 ≤ c / w + dy s ∧ c / w + dy s < h)) ∧ ¬ ((c % w + dx s) / 16 = c % w / 16 ∧ (c / w + dy s) / 16 = c / w / 16) := by
  have hs := step_ok k h0 h1
  rw [over_ge]
  constructor
  · rintro ⟨e1, e2⟩
    obtain ⟨f1, f2, f3⟩ := hs.2 e1
    refine ⟨hs.1.1 e1, fun e => e2 ?_⟩
    rw [sec_eq f1 k, f2, f3]; exact e
  · rintro ⟨e1, e2⟩
    have e3 := hs.1.2 e1
    obtain ⟨f1, f2, f3⟩ := hs.2 e3
    refine ⟨e3, fun e => e2 ?_⟩
    rw [sec_eq f1 k, f2, f3] at e; exact e
/-- by its place in the sector: does a side lead over the edge? -/
def EdgeAt (w h s l k : Int) : Prop :=
  if k = 0 then l / (sizeN w h s).1 = 0 ∧ 0 < s / acrN w
  else if k = 1 then l % (sizeN w h s).1 = (sizeN w h s).1 - 1 ∧ s % acrN w * 16 + 16 < w
  else if k = 2 then l / (sizeN w h s).1 = (sizeN w h s).2 - 1 ∧ s / acrN w * 16 + 16 < h
  else l % (sizeN w h s).1 = 0 ∧ 0 < s % acrN w
theorem over_at {w h s l : Int} (hs : IsS w h s) (h0 : 0 ≤ l) (h1 : l < (sizeN w h s).1 * (sizeN w h s).2) {k : Int} (hk : 0 ≤ k ∧ k < 4) : 0 ≤ overN w h (globalN w h s l) k ↔ EdgeAt w h s l k := by
  obtain ⟨hc, hx, hy⟩ := global_is hs h0 h1
  have hg := global_xy hs h0 h1
  have hq := iss_xy hs
  have hz : (sizeN w h s).1 = min 16 (w - s % acrN w * 16) ∧ (sizeN w h s).2 = min 16 (h - s / acrN w * 16) := by rw [sizeN, if_pos hs]; exact ⟨rfl, rfl⟩
  rw [over_xy hc hk.1 (by omega), hx, hy]
  unfold EdgeAt
  have : k = 0 ∨ k = 1 ∨ k = 2 ∨ k = 3 := by omega
  generalize l % (sizeN w h s).1 = lx at *
  generalize l / (sizeN w h s).1 = ly at *
  rcases this with e | e | e | e <;> subst e <;> simp [dx, dy] <;> omega

theorem div_mod_eq {tw l : Int} (hw : 0 < tw) : l = l / tw * tw + l % tw := by rw [Int.mul_comm]; exact (Int.mul_ediv_add_emod l tw).symm
/-- the locals of a side -/
theorem mem_along {tw th l k : Int} (hw : 1 ≤ tw) (hh : 1 ≤ th) (h0 : 0 ≤ l) (h1 : l < tw * th) (hk : 0 ≤ k ∧ k < 4) :
    l ∈ alongN tw th k ↔ (if k = 0 then l / tw = 0 else if k = 1 then l % tw = tw - 1 else if k = 2 then l / tw = th - 1 else l % tw = 0) := by
  have e := div_mod_eq (l := l) (show 0 < tw by omega)
  have m0 := Int.emod_nonneg l (show tw ≠ 0 by omega)
  have m1 := Int.emod_lt_of_pos l (show 0 < tw by omega)
  have d0 := Int.ediv_nonneg h0 (show 0 ≤ tw by omega)
  have d1 : l / tw < th := Int.ediv_lt_of_lt_mul (by omega) (by rw [Int.mul_comm]; exact h1)
  have : k = 0 ∨ k = 1 ∨ k = 2 ∨ k = 3 := by omega
  rcases this with ek | ek | ek | ek <;> subst ek <;> simp only [alongN, List.mem_map, List.mem_range] <;> simp
  · constructor
    · rintro ⟨x, hx, rfl⟩; exact Int.ediv_eq_zero_of_lt (by omega) (by omega)
    · intro e0; rw [e0] at e; exact ⟨l.toNat, by omega, by omega⟩
  · constructor
    · rintro ⟨y, hy, rfl⟩
      have := xy_div (w := tw) (x := tw - 1) (y := (y : Int)) (by omega) (by omega)
      rw [Int.add_comm]; exact this.2
    · intro e0; exact ⟨(l / tw).toNat, by omega, by rw [Int.toNat_of_nonneg d0, Int.add_comm, ← e0]; exact e.symm⟩
  · constructor
    · rintro ⟨x, hx, rfl⟩; exact (xy_div (by omega) (by omega)).1
    · intro e0; rw [e0] at e; exact ⟨(l % tw).toNat, by omega, by rw [Int.toNat_of_nonneg m0]; exact e.symm⟩
  · constructor
    · rintro ⟨y, hy, rfl⟩
      have := xy_div (w := tw) (x := 0) (y := (y : Int)) (by omega) (by omega)
      rw [Int.add_zero] at this; exact this.2
    · intro e0; rw [e0, Int.add_zero] at e; exact ⟨(l / tw).toNat, by omega, by rw [Int.toNat_of_nonneg d0]; exact e.symm⟩
theorem along_lt {tw th k : Int} (hw : 1 ≤ tw) (hh : 1 ≤ th) (hk : 0 ≤ k ∧ k < 4) : ∀ l ∈ alongN tw th k, 0 ≤ l ∧ l < tw * th := by
  intro l hl
  have : k = 0 ∨ k = 1 ∨ k = 2 ∨ k = 3 := by omega
  rcases this with ek | ek | ek | ek <;> subst ek <;> simp only [alongN, List.mem_map, List.mem_range] at hl <;> simp at hl
  · obtain ⟨x, hx, rfl⟩ := hl
    have := mul_lt (a := (x : Int)) (b := 0) (c := tw) (d := th) (by omega) (by omega) (by omega) (by omega)
    omega
  · obtain ⟨y, hy, rfl⟩ := hl
    have := mul_lt (a := tw - 1) (b := (y : Int)) (c := tw) (d := th) (by omega) (by omega) (by omega) (by omega)
    omega
  · obtain ⟨x, hx, rfl⟩ := hl
    exact mul_lt (by omega) (by omega) (by omega) (by omega)
  · obtain ⟨y, hy, rfl⟩ := hl
    have := mul_lt (a := 0) (b := (y : Int)) (c := tw) (d := th) (by omega) (by omega) (by omega) (by omega)
    omega
theorem along_len {tw th k : Int} (hw : 1 ≤ tw ∧ tw ≤ 16) (hh : 1 ≤ th ∧ th ≤ 16) (hk : 0 ≤ k ∧ k < 4) : 1 ≤ (alongN tw th k).length ∧ (alongN tw th k).length ≤ 16 := by
  have : k = 0 ∨ k = 1 ∨ k = 2 ∨ k = 3 := by omega
  rcases this with ek | ek | ek | ek <;> subst ek <;> simp [alongN] <;> omega
/-- a side's locals lead over the edge, if one does -/
theorem over_along {w h s l : Int} (hs : IsS w h s) {k : Int} (hk : 0 ≤ k ∧ k < 4) {l0 : Int} (hl0 : l0 ∈ alongN (sizeN w h s).1 (sizeN w h s).2 k) (h0 : 0 ≤ l) (h1 : l < (sizeN w h s).1 * (sizeN w h s).2) :
    0 ≤ overN w h (globalN w h s l) k ↔ (l ∈ alongN (sizeN w h s).1 (sizeN w h s).2 k ∧ 0 ≤ overN w h (globalN w h s l0) k) := by
  have hp := size_pos hs
  have b0 := along_lt (by omega) (by omega) hk l0 hl0
  rw [mem_along (by omega) (by omega) b0.1 b0.2 hk] at hl0
  rw [over_at hs h0 h1 hk, over_at hs b0.1 b0.2 hk, mem_along (by omega) (by omega) h0 h1 hk]
  have : k = 0 ∨ k = 1 ∨ k = 2 ∨ k = 3 := by omega
  rcases this with ek | ek | ek | ek <;> subst ek <;> simp [EdgeAt] at hl0 ⊢ <;> omega

theorem step_val {w h c : Int} (k : IsC w h c) :
    (stepN w h c 0 = if 0 < c / w then c - w else -1) ∧ (stepN w h c 1 = if c % w < w - 1 then c + 1 else -1) ∧ (stepN w h c 2 = if c / w < h - 1 then c + w else -1) ∧ (stepN w h c 3 = if 0 < c % w then c - 1 else -1) := by
  have hxy := isc_xy k
  have hm := k.1
  refine ⟨?_, ?_, ?_, ?_⟩ <;> rw [step_eq k (by decide) (by decide)] <;> simp only [dx, dy] <;> unfold cellN <;> split <;> split <;> simp at * <;> first | omega | (rw [Int.add_mul]; omega) | skip
end Hd
end
section
namespace Hd
open Go
/-! ## what waits in a ring -/
def Wt (B : List Bkt) (a k it : Int) : Prop := a ≤ k ∧ k < a + 256 ∧ ∃ x, B[(k % 256).toNat]? = some x ∧ it ∈ x.q
structure RingOk (B : List Bkt) (l tot : Int) : Prop where
  len : B.length = 256
  bk : ∀ x ∈ B, (x.xs.length : Int) ≤ tot ∧ 0 ≤ x.gone ∧ x.gone ≤ x.xs.length
  cnt : l = ((B.map fun x => x.q.length).sum : Nat)

theorem sum_set {X : Type} (f : X → Nat) : ∀ (B : List X) (i : Nat) (x y : X), B[i]? = some x → ((B.set i y).map f).sum + f x = (B.map f).sum + f y
  | [], i, x, y, h => by simp at h
  | z :: B, 0, x, y, h => by simp at h; subst h; simp; omega
  | z :: B, i + 1, x, y, h => by
    have := sum_set f B i x y (by simpa using h)
    simp only [List.set_cons_succ, List.map_cons, List.sum_cons]; omega
theorem set_get {X : Type} {B : List X} {i j : Nat} {x y : X} (h : B[i]? = some x) : (B.set i y)[j]? = if i = j then some y else B[j]? := by
  rw [List.getElem?_set]
  by_cases e : i = j
  · subst e; simp [lt_of_get h]
  · simp [e]
theorem q_empty {x : Bkt} (h : 0 ≤ x.gone ∧ x.gone ≤ x.xs.length) : x.q = [] ↔ x.gone = x.xs.length := by
  unfold Bkt.q
  rw [List.drop_eq_nil_iff]; omega
theorem mem_set_cases {X : Type} {B : List X} {i : Nat} {y z : X} (h : z ∈ B.set i y) : z = y ∨ z ∈ B := by
  rcases List.mem_or_eq_of_mem_set h with e | e
  · exact .inr e
  · exact .inl e

theorem put_ok {B : List Bkt} {l tot key item : Int} {x y : Bkt} (ok : RingOk B l tot) (hx : B[(key % 256).toNat]? = some x) (hy1 : y.xs = x.xs ++ [item]) (hy2 : y.gone = x.gone) :
    RingOk (B.set (key % 256).toNat y) (l + 1) (tot + 1) ∧ ∀ a k it, a ≤ key → key < a + 256 → (Wt (B.set (key % 256).toNat y) a k it ↔ Wt B a k it ∨ (k = key ∧ it = item)) := by
  have hxb := ok.bk x (List.mem_of_getElem? hx)
  have hq : y.q = x.q ++ [item] := by
    unfold Bkt.q
    rw [hy1, hy2, List.drop_append_of_le_length (by omega)]
  refine ⟨⟨by simpa using ok.len, fun z hz => ?_, ?_⟩, fun a k it h1 h2 => ?_⟩
  · rcases mem_set_cases hz with e | e
    · subst e; rw [hy1, hy2]; simp; omega
    · have := ok.bk z e; omega
  · have := sum_set (fun x : Bkt => x.q.length) B _ x y hx
    rw [hq, List.length_append, List.length_singleton] at this
    rw [ok.cnt]; omega
  · constructor
    · rintro ⟨h3, h4, z, hz, hit⟩
      rw [set_get hx] at hz
      split at hz
      · rename_i e
        have : k = key := by omega
        subst this
        cases hz
        rw [hq, List.mem_append, List.mem_singleton] at hit
        rcases hit with hit | hit
        · exact .inl ⟨h3, h4, x, hx, hit⟩
        · exact .inr ⟨rfl, hit⟩
      · exact .inl ⟨h3, h4, z, hz, hit⟩
    · rintro (⟨h3, h4, z, hz, hit⟩ | ⟨rfl, rfl⟩)
      · refine ⟨h3, h4, ?_⟩
        rw [set_get hx]
        split
        · rename_i e
          rw [← e, hx] at hz; cases hz
          exact ⟨y, rfl, by rw [hq]; simp [hit]⟩
        · exact ⟨z, hz, hit⟩
      · refine ⟨h1, h2, y, by rw [set_get hx, if_pos rfl], by rw [hq]; simp⟩

theorem pop_ok {B : List Bkt} {l tot a k it : Int} {x y : Bkt} (ok : RingOk B l tot) (hf : FirstKey B a k) (hk : k < a + 256) (hx : B[(k % 256).toNat]? = some x) (hq : x.q = it :: y.q) (hyl : y.xs.length ≤ x.xs.length) (hyg : 0 ≤ y.gone ∧ y.gone ≤ y.xs.length) :
    RingOk (B.set (k % 256).toNat y) (l - 1) tot ∧ (∀ k' it', Wt B a k' it' → (k' = k ∧ it' = it) ∨ Wt (B.set (k % 256).toNat y) k k' it') ∧ (∀ k' it', Wt (B.set (k % 256).toNat y) k k' it' → Wt B a k' it') ∧ Wt B a k it := by
  have hxb := ok.bk x (List.mem_of_getElem? hx)
  obtain ⟨f1, f2, -⟩ := hf
  refine ⟨⟨by simpa using ok.len, fun z hz => ?_, ?_⟩, ?_, ?_, ?_⟩
  · rcases mem_set_cases hz with e | e
    · subst e; omega
    · exact ok.bk z e
  · have := sum_set (fun x : Bkt => x.q.length) B _ x y hx
    rw [hq, List.length_cons] at this
    rw [ok.cnt]; omega
  · rintro k' it' ⟨h1, h2, z, hz, hit⟩
    by_cases e : k' < k
    · have hzz := f2 k' h1 e z hz
      rw [(q_empty (ok.bk z (List.mem_of_getElem? hz)).2).2 hzz] at hit
      cases hit
    · by_cases e2 : k' = k
      · subst e2
        rw [hx] at hz; cases hz
        rw [hq, List.mem_cons] at hit
        rcases hit with hit | hit
        · exact .inl ⟨rfl, hit⟩
        · exact .inr ⟨by omega, by omega, y, by rw [set_get hx, if_pos rfl], hit⟩
      · refine .inr ⟨by omega, by omega, z, ?_, hit⟩
        rw [set_get hx, if_neg (by omega)]; exact hz
  · rintro k' it' ⟨h1, h2, z, hz, hit⟩
    rw [set_get hx] at hz
    split at hz
    · rename_i e
      cases hz
      have : k' = k := by omega
      subst this
      exact ⟨f1, by omega, x, hx, by rw [hq]; simp [hit]⟩
    · by_cases e2 : k' < a + 256
      · exact ⟨by omega, e2, z, hz, hit⟩
      · have hm : (k' - 256) % 256 = k' % 256 := by omega
        have hzz := f2 (k' - 256) (by omega) (by omega) z (by rw [hm]; exact hz)
        rw [(q_empty (ok.bk z (List.mem_of_getElem? hz)).2).2 hzz] at hit
        cases hit
  · exact ⟨f1, hk, x, hx, by rw [hq]; simp⟩

theorem sum_pos {X : Type} (f : X → Nat) : ∀ (B : List X), 0 < (B.map f).sum → ∃ (i : Nat) (x : X), B[i]? = some x ∧ 0 < f x
  | [], h => by simp at h
  | z :: B, h => by
    by_cases e : 0 < f z
    · exact ⟨0, z, rfl, e⟩
    · simp at h
      obtain ⟨i, x, hi, hx⟩ := sum_pos f B (by omega)
      exact ⟨i + 1, x, by simpa using hi, hx⟩
theorem first_ex {B : List Bkt} {l tot a : Int} (ok : RingOk B l tot) (hl : 0 < l) (ha : 0 ≤ a) : ∃ k, k < a + 256 ∧ FirstKey B a k := by
  obtain ⟨i, x, hi, hx⟩ := sum_pos (fun x : Bkt => x.q.length) B (by have := ok.cnt; omega)
  have hlt := lt_of_get hi
  rw [ok.len] at hlt
  have key : ∀ n : Nat, n ≤ 256 → (∀ j, a ≤ j → j < a + n → ∀ x, B[(j % 256).toNat]? = some x → x.gone = x.xs.length) ∨ ∃ k, k < a + n ∧ FirstKey B a k := by
    intro n
    induction n with
    | zero => intro _; exact .inl fun j h1 h2 => by omega
    | succ n ih =>
      intro hn
      rcases ih (by omega) with h | ⟨k, hk, hf⟩
      · obtain ⟨z, hz⟩ : ∃ z, B[((a + n) % 256).toNat]? = some z := ⟨_, List.getElem?_eq_getElem (by rw [ok.len]; omega)⟩
        by_cases e : z.gone = z.xs.length
        · refine .inl fun j h1 h2 x hx => ?_
          by_cases e2 : j < a + n
          · exact h j h1 e2 x hx
          · have : j = a + n := by omega
            subst this
            rw [hz] at hx; cases hx; exact e
        · exact .inr ⟨a + n, by omega, by omega, h, z, hz, e⟩
      · exact .inr ⟨k, by omega, hf⟩
  rcases key 256 (by omega) with h | h
  · exfalso
    have hxe := h (a + ((i : Int) - a) % 256) (by omega) (by omega) x (by
      have : ((a + ((i : Int) - a) % 256) % 256).toNat = i := by omega
      rw [this]; exact hi)
    have := (q_empty (ok.bk x (List.mem_of_getElem? hi)).2).2 hxe
    rw [this] at hx; simp at hx
  · exact h
theorem wt_none {B : List Bkt} {tot a k it : Int} (ok : RingOk B 0 tot) : ¬ Wt B a k it := by
  rintro ⟨h1, h2, x, hx, hit⟩
  have := sum_set (fun x : Bkt => x.q.length) B _ x x hx
  have hc := ok.cnt
  have hle : x.q.length ≤ (B.map fun x => x.q.length).sum := by
    have : ∀ (B : List Bkt) (i : Nat), B[i]? = some x → x.q.length ≤ (B.map fun x => x.q.length).sum := by
      intro B
      induction B with
      | nil => intro i h; simp at h
      | cons z B ih =>
        intro i h
        cases i with
        | zero => simp at h; subst h; simp
        | succ i => have := ih i (by simpa using h); simp; omega
    exact this B _ hx
  have : x.q.length = 0 := by omega
  rw [List.length_eq_zero_iff] at this
  rw [this] at hit; cases hit

/-! ## neighbours -/
theorem opp {w h c s : Int} (hs : 0 ≤ s ∧ s < 4) (hc : 0 ≤ stepN w h c s) : stepN w h (stepN w h c s) ((s + 2) % 4) = c ∧ IsC w h c := by
  have hic : IsC w h c := by
    apply Classical.byContradiction
    intro hn
    rw [step_none (fun k => hn k.1)] at hc; omega
  obtain ⟨k1, k2⟩ := step_ok hic hs.1 (by omega)
  obtain ⟨m1, m2, m3⟩ := k2 hc
  have hxy := isc_xy hic
  have hin := k1.1 hc
  refine ⟨?_, hic⟩
  rw [step_eq m1 (by omega) (by omega), m2, m3]
  have : s = 0 ∨ s = 1 ∨ s = 2 ∨ s = 3 := by omega
  rcases this with e | e | e | e <;> subst e <;> simp [dx, dy] at hin ⊢ <;> rw [cellN, if_pos ⟨hic.1, by omega, by omega⟩] <;> first | omega | (rw [show c / w + -1 + 1 = c / w by omega]; omega) | (rw [show c / w + 1 + -1 = c / w by omega]; omega)
theorem nb_symm {w h : Int} {C : List Int} {c m : Int} (hc : Opn C c) (hm : Nb w h C c m) : Nb w h C m c := by
  obtain ⟨ho, s, hs, e⟩ := hm
  have := opp (w := w) (h := h) (c := c) hs (by rw [e]; exact ho.1)
  rw [e] at this
  exact ⟨hc, (s + 2) % 4, by omega, this.1⟩

/-! ## the sweeper -/
def uns (d : List Int) : Nat := (d.filter fun x => decide (x = INF)).length
theorem uns_set : ∀ (d : List Int) (i : Nat) (v : Int), d[i]? = some INF → v ≠ INF → uns (d.set i v) + 1 = uns d
  | [], i, v, h, _ => by simp at h
  | x :: d, 0, v, h, hv => by simp at h; subst h; simp [uns, hv]
  | x :: d, i + 1, v, h, hv => by
    have := uns_set d i v (by simpa using h) hv
    unfold uns at *
    rw [List.set_cons_succ, List.filter_cons, List.filter_cons]
    split <;> (try simp only [List.length_cons]) <;> omega
theorem uns_le (d : List Int) : uns d ≤ d.length := List.length_filter_le _ _

/-- where a distance may come from -/
def Org (w h : Int) (C : List Int) (sd : List Seed) (d : List Int) (c k : Int) : Prop :=
  (∃ s ∈ sd, s.cell = c ∧ s.key = k) ∨ ∃ m, Nb w h C c m ∧ gAt d m ≠ INF ∧ k = gAt d m + gAt C m
/-- all keys are at most so great -/
def kb (d : List Int) : Int := 1073741824 + 255 * ((d.length : Int) - uns d)
structure Sw (w h : Int) (C : List Int) (sd : List Seed) (T : Int) (a l : Int) (B : List Bkt) (todo : List Seed) (d : List Int) (tot rem : Int) (ex : Int → Int → Prop) : Prop where
  ring : RingOk B l tot
  a0 : 0 ≤ a ∧ a ≤ kb d ∧ (1 ≤ rem → a + 255 ≤ kb d)
  dl : d.length = C.length
  dA : ∀ c : Int, 0 ≤ c → c < C.length → gAt d c = INF ∨ ((0 ≤ gAt d c ∧ gAt d c ≤ a) ∧ Opn C c ∧ Org w h C sd d c (gAt d c))
  wB : ∀ k it, Wt B a k it → Opn C it ∧ Org w h C sd d it k ∧ k ≤ kb d
  sC : ∀ s ∈ sd, s ∈ todo ∨ Wt B a s.key s.cell ∨ gAt d s.cell ≤ s.key
  rD : ∀ m c, Opn C m → gAt d m ≠ INF → Nb w h C m c → ¬ ex m c → gAt d c ≤ gAt d m + gAt C m ∨ Wt B a (gAt d m + gAt C m) c
  td : (∀ s ∈ todo, s ∈ sd ∧ a ≤ s.key) ∧ todo.Pairwise fun x y => x.key ≤ y.key
  tt : 0 ≤ tot ∧ tot + todo.length + 4 * uns d + rem ≤ T
  r0 : 0 ≤ rem

structure SwC (w h : Int) (C : List Int) (sd : List Seed) : Prop where
  may : May w h
  len : (C.length : Int) = w * h
  small : C.length ≤ 256
  bt : ∀ x ∈ C, 1 ≤ x ∧ x ≤ 255
  sdo : ∀ s ∈ sd, Opn C s.cell ∧ 0 ≤ s.key ∧ s.key ≤ 1073741824
  sl : sd.length ≤ 2^30

theorem kb_le {d : List Int} (h : d.length ≤ 256) : 1073741824 ≤ kb d ∧ kb d ≤ 1073741824 + 65280 := by
  have := uns_le d
  unfold kb; omega

section
variable {w h : Int} {C : List Int} {sd : List Seed} {T a l : Int} {B : List Bkt} {todo : List Seed} {d : List Int} {tot rem : Int} {ex : Int → Int → Prop}

theorem SwC.cost (k : SwC w h C sd) {m : Int} (hm : 0 ≤ m ∧ m < C.length) : 1 ≤ gAt C m ∧ gAt C m ≤ 255 := by
  have hl : m.toNat < C.length := by omega
  rw [gAt_get hl]; exact k.bt _ (List.getElem_mem hl)

/-- told to the ring -/
theorem Sw.put (hc : SwC w h C sd) (s : Sw w h C sd T a l B todo d tot rem ex) {ex' : Int → Int → Prop} {m c : Int} {x y : Bkt} (hr : 1 ≤ rem) (hm : Opn C m) (hd : gAt d m = a) (hnb : Nb w h C m c) (hu : gAt d c = INF)
    (hx : B[((a + gAt C m) % 256).toNat]? = some x) (hy1 : y.xs = x.xs ++ [c]) (hy2 : y.gone = x.gone) (hex : ∀ m' c', ¬ ex' m' c' → (m' = m ∧ c' = c) ∨ ¬ ex m' c') :
    Sw w h C sd T a (l + 1) (B.set ((a + gAt C m) % 256).toNat y) todo d (tot + 1) (rem - 1) ex' := by
  have hcm := hc.cost ⟨hm.1, hm.2.1⟩
  have hcm2 := hm.2.2
  have ha := s.a0
  have hkb := kb_le (d := d) (by rw [s.dl]; exact hc.small)
  have hI : INF = 1099511627776 := rfl
  have hmi : gAt d m ≠ INF := by omega
  obtain ⟨p1, p2⟩ := put_ok s.ring hx hy1 hy2
  have hw : ∀ k it, Wt (B.set ((a + gAt C m) % 256).toNat y) a k it ↔ Wt B a k it ∨ (k = a + gAt C m ∧ it = c) := fun k it => p2 a k it (by omega) (by omega)
  refine ⟨p1, ⟨ha.1, ha.2.1, fun _ => ha.2.2 hr⟩, s.dl, s.dA, fun k it hk => ?_, fun sd hsd => ?_, fun m' c' h1 h2 h3 h4 => ?_, s.td, ?_, ?_⟩
  · rcases (hw k it).1 hk with e | ⟨rfl, rfl⟩
    · exact s.wB k it e
    · refine ⟨hnb.1, .inr ⟨m, nb_symm hm hnb, hmi, by rw [hd]⟩, ?_⟩
      omega
  · rcases s.sC sd hsd with e | e | e
    · exact .inl e
    · exact .inr (.inl ((hw _ _).2 (.inl e)))
    · exact .inr (.inr e)
  · rcases hex m' c' h4 with ⟨rfl, rfl⟩ | e
    · exact .inr ((hw _ _).2 (.inr ⟨by rw [hd], rfl⟩))
    · rcases s.rD m' c' h1 h2 h3 e with f | f
      · exact .inl f
      · exact .inr ((hw _ _).2 (.inl f))
  · have := s.tt; omega
  · omega

/-- nothing to be told -/
theorem Sw.skip (s : Sw w h C sd T a l B todo d tot rem ex) {ex' : Int → Int → Prop} {rem' : Int} (h0 : 0 ≤ rem') (h1 : rem' ≤ rem)
    (hex : ∀ m c, Opn C m → gAt d m ≠ INF → Nb w h C m c → ¬ ex' m c → ¬ ex m c ∨ gAt d c ≤ gAt d m + gAt C m ∨ Wt B a (gAt d m + gAt C m) c) : Sw w h C sd T a l B todo d tot rem' ex' := by
  have ha := s.a0
  have ht := s.tt
  refine ⟨s.ring, ⟨ha.1, ha.2.1, fun e => ha.2.2 (by omega)⟩, s.dl, s.dA, s.wB, s.sC, fun m c e1 e2 e3 e4 => ?_, s.td, by omega, h0⟩
  rcases hex m c e1 e2 e3 e4 with f | f
  · exact s.rD m c e1 e2 e3 f
  · exact f
/-- the next seed is told to the ring -/
theorem Sw.feed (hc : SwC w h C sd) {s0 : Seed} (s : Sw w h C sd T a l B (s0 :: todo) d tot rem ex) {x y : Bkt} (hk : a ≤ s0.key ∧ s0.key - a < 256)
    (hx : B[(s0.key % 256).toNat]? = some x) (hy1 : y.xs = x.xs ++ [s0.cell]) (hy2 : y.gone = x.gone) :
    Sw w h C sd T a (l + 1) (B.set (s0.key % 256).toNat y) todo d (tot + 1) rem ex := by
  obtain ⟨p1, p2⟩ := put_ok s.ring hx hy1 hy2
  have hw : ∀ k it, Wt (B.set (s0.key % 256).toNat y) a k it ↔ Wt B a k it ∨ (k = s0.key ∧ it = s0.cell) := fun k it => p2 a k it (by omega) (by omega)
  have h0 := s.td.1 s0 (by simp)
  have hs0 := hc.sdo s0 h0.1
  have hkb := kb_le (d := d) (by rw [s.dl]; exact hc.small)
  have ht := s.tt
  refine ⟨p1, s.a0, s.dl, s.dA, fun k it hk => ?_, fun z hz => ?_, fun m' c' h1 h2 h3 h4 => ?_, ⟨fun z hz => s.td.1 z (by simp [hz]), (List.pairwise_cons.1 s.td.2).2⟩, ?_, s.r0⟩
  · rcases (hw k it).1 hk with e | ⟨rfl, rfl⟩
    · exact s.wB k it e
    · exact ⟨hs0.1, .inl ⟨s0, h0.1, rfl, rfl⟩, by omega⟩
  · rcases s.sC z hz with e | e | e
    · rcases List.mem_cons.1 e with e | e
      · subst e; exact .inr (.inl ((hw _ _).2 (.inr ⟨rfl, rfl⟩)))
      · exact .inl e
    · exact .inr (.inl ((hw _ _).2 (.inl e)))
    · exact .inr (.inr e)
  · rcases s.rD m' c' h1 h2 h3 h4 with f | f
    · exact .inl f
    · exact .inr ((hw _ _).2 (.inl f))
  · simp at ht; omega
/-- the ring goes on to the next seed, when nothing waits -/
theorem Sw.jump (hc : SwC w h C sd) {s0 : Seed} (s : Sw w h C sd T a 0 B (s0 :: todo) d tot 0 ex) : Sw w h C sd T s0.key 0 B (s0 :: todo) d tot 0 ex := by
  have h0 := s.td.1 s0 (by simp)
  have hs0 := hc.sdo s0 h0.1
  have hkb := kb_le (d := d) (by rw [s.dl]; exact hc.small)
  have hp := List.pairwise_cons.1 s.td.2
  have nw : ∀ {a k it : Int}, ¬ Wt B a k it := wt_none s.ring
  refine ⟨s.ring, ⟨hs0.2.1, by omega, fun e => by omega⟩, s.dl, fun c e1 e2 => ?_, fun k it e => absurd e nw, fun z hz => ?_, fun m c e1 e2 e3 e4 => ?_, ⟨fun z hz => ?_, s.td.2⟩, s.tt, s.r0⟩
  · rcases s.dA c e1 e2 with f | ⟨f1, f2⟩
    · exact .inl f
    · exact .inr ⟨by omega, f2⟩
  · rcases s.sC z hz with e | e | e
    · exact .inl e
    · exact absurd e nw
    · exact .inr (.inr e)
  · rcases s.rD m c e1 e2 e3 e4 with f | f
    · exact .inl f
    · exact absurd f nw
  · refine ⟨(s.td.1 z hz).1, ?_⟩
    rcases List.mem_cons.1 hz with e | e
    · subst e; exact Int.le_refl _
    · exact hp.1 z e
def exK (w h loc k m c : Int) : Prop := m = loc ∧ ∃ s : Int, (k ≤ s ∧ s < 4) ∧ stepN w h loc s = c
def ex0 (_ _ : Int) : Prop := False

theorem gAt_oob {d : List Int} {c : Int} (h : ¬ c.toNat < d.length) : gAt d c = 0 := by simp [gAt, List.getElem?_eq_none (Nat.le_of_not_lt h)]

/-- an entry whose local is known already -/
theorem Sw.popOld {k it : Int} {x y : Bkt} (s : Sw w h C sd T a l B todo d tot 0 ex0) (hf : FirstKey B a k) (hk : k < a + 256) (hx : B[(k % 256).toNat]? = some x) (hq : x.q = it :: y.q) (hyl : y.xs.length ≤ x.xs.length) (hyg : 0 ≤ y.gone ∧ y.gone ≤ y.xs.length)
    (hz : ∀ z ∈ todo, a + 256 ≤ z.key) (hd : gAt d it ≠ INF) : Sw w h C sd T k (l - 1) (B.set (k % 256).toNat y) todo d tot 0 ex0 := by
  obtain ⟨p1, p2, p3, p4⟩ := pop_ok s.ring hf hk hx hq hyl hyg
  have hw := s.wB k it p4
  have ha := s.a0
  have hf1 := hf.1
  have hdi : gAt d it ≤ k := by
    rcases s.dA it hw.1.1 hw.1.2.1 with f | ⟨f1, f2⟩
    · exact absurd f hd
    · omega
  refine ⟨p1, ⟨by omega, hw.2.2, fun e => by omega⟩, s.dl, fun c e1 e2 => ?_, fun k' it' e => s.wB k' it' (p3 k' it' e), fun z hz => ?_, fun m c e1 e2 e3 e4 => ?_, ⟨fun z h => ⟨(s.td.1 z h).1, by have := hz z h; omega⟩, s.td.2⟩, s.tt, s.r0⟩
  · rcases s.dA c e1 e2 with f | ⟨f1, f2⟩
    · exact .inl f
    · exact .inr ⟨by omega, f2⟩
  · rcases s.sC z hz with e | e | e
    · exact .inl e
    · rcases p2 _ _ e with ⟨f1, f2⟩ | f
      · rw [f2]; exact .inr (.inr (by omega))
      · exact .inr (.inl f)
    · exact .inr (.inr e)
  · rcases s.rD m c e1 e2 e3 e4 with f | f
    · exact .inl f
    · rcases p2 _ _ f with ⟨f1, f2⟩ | f
      · rw [f2]; exact .inl (by omega)
      · exact .inr f
/-- an entry whose local is not known yet -/
theorem Sw.popNew (hc : SwC w h C sd) {k it : Int} {x y : Bkt} (s : Sw w h C sd T a l B todo d tot 0 ex0) (hf : FirstKey B a k) (hk : k < a + 256) (hx : B[(k % 256).toNat]? = some x) (hq : x.q = it :: y.q) (hyl : y.xs.length ≤ x.xs.length) (hyg : 0 ≤ y.gone ∧ y.gone ≤ y.xs.length)
    (hz : ∀ z ∈ todo, a + 256 ≤ z.key) (hd : gAt d it = INF) : Sw w h C sd T k (l - 1) (B.set (k % 256).toNat y) todo (d.set it.toNat k) tot 4 (exK w h it 0) := by
  have hI : INF = 1099511627776 := rfl
  obtain ⟨p1, p2, p3, p4⟩ := pop_ok s.ring hf hk hx hq hyl hyg
  have hw := s.wB k it p4
  have ha := s.a0
  have hf1 := hf.1
  have hkb := kb_le (d := d) (by rw [s.dl]; exact hc.small)
  have hit : it.toNat < d.length := by have := hw.1; unfold Opn at this; rw [s.dl]; omega
  have hitl : 0 ≤ it ∧ it < d.length := by have := hw.1; unfold Opn at this; rw [s.dl]; omega
  have hun := uns_set d it.toNat k (by rw [List.getElem?_eq_getElem hit, ← gAt_get hit, hd]) (by omega)
  have hkb2 : kb (d.set it.toNat k) = kb d + 255 := by unfold kb; rw [List.length_set]; omega
  have hg : ∀ j, 0 ≤ j → gAt (d.set it.toNat k) j = if j = it then k else gAt d j := fun j hj => gAt_set hitl.1 hitl.2 hj
  have hst : ∀ m, Opn C m → gAt d m ≠ INF → gAt (d.set it.toNat k) m = gAt d m := fun m hm hn => by
    rw [hg m hm.1, if_neg (fun e => hn (by rw [e, hd]))]
  have horg : ∀ c k', Org w h C sd d c k' → Org w h C sd (d.set it.toNat k) c k' := by
    rintro c k' (e | ⟨m, e1, e2, e3⟩)
    · exact .inl e
    · exact .inr ⟨m, e1, by rw [hst m e1.1 e2]; exact e2, by rw [hst m e1.1 e2]; exact e3⟩
  have ht := s.tt
  refine ⟨p1, ⟨by omega, by omega, fun e => by omega⟩, by rw [List.length_set]; exact s.dl, fun c e1 e2 => ?_, fun k' it' e => ?_, fun z hz => ?_, fun m c e1 e2 e3 e4 => ?_, ⟨fun z h => ⟨(s.td.1 z h).1, by have := hz z h; omega⟩, s.td.2⟩, ?_, by omega⟩
  · rw [hg c e1]
    split
    · rename_i e; subst e; exact .inr ⟨by omega, hw.1, horg _ _ hw.2.1⟩
    · rcases s.dA c e1 e2 with f | ⟨f1, f2, f3⟩
      · exact .inl f
      · exact .inr ⟨by omega, f2, horg _ _ f3⟩
  · have f := s.wB k' it' (p3 k' it' e)
    exact ⟨f.1, horg _ _ f.2.1, by omega⟩
  · have hzs := hc.sdo z hz
    rcases s.sC z hz with e | e | e
    · exact .inl e
    · rcases p2 _ _ e with ⟨f1, f2⟩ | f
      · rw [f2, hg it hitl.1, if_pos rfl]; exact .inr (.inr (by omega))
      · exact .inr (.inl f)
    · rw [hg z.cell hzs.1.1]
      split
      · rename_i e2; rw [e2, hd] at e; omega
      · exact .inr (.inr e)
  · have hmi : m ≠ it := by
      rintro rfl
      obtain ⟨f1, s', f2, f3⟩ := e3
      exact e4 ⟨rfl, s', f2, f3⟩
    rw [hg m e1.1, if_neg hmi] at e2 ⊢
    have hcm := hc.cost ⟨e1.1, e1.2.1⟩
    have hdm := s.dA m e1.1 e1.2.1
    rw [hg c e3.1.1]
    split
    · rename_i e5
      rcases s.rD m c e1 e2 e3 (fun f => f) with f | f
      · rw [e5, hd] at f
        rcases hdm with g | g
        · exact absurd g e2
        · omega
      · rcases p2 _ _ f with ⟨f1, f2⟩ | f
        · exact .inl (by omega)
        · exact .inl f.1
    · rename_i e5
      rcases s.rD m c e1 e2 e3 (fun f => f) with f | f
      · exact .inl f
      · rcases p2 _ _ f with ⟨f1, f2⟩ | f
        · exact absurd f2 e5
        · exact .inr f
  · omega

/-- a list as a function on cells -/
def dF (d : List Int) (c : Int) : Int := if 0 ≤ c ∧ c < d.length then gAt d c else INF
def srcS (sd : List Seed) (c k : Int) : Prop := ∃ s ∈ sd, s.cell = c ∧ s.key = k
/-- at the end -/
theorem Sw.done (hc : SwC w h C sd) (s : Sw w h C sd T a 0 B [] d tot 0 ex0) : IsDist w h C (srcS sd) (dF d) := by
  have hI : INF = 1099511627776 := rfl
  have nw : ∀ {a k it : Int}, ¬ Wt B a k it := wt_none s.ring
  have hkb := kb_le (d := d) (by rw [s.dl]; exact hc.small)
  have ha := s.a0
  have hin : ∀ c, Opn C c → dF d c = gAt d c := fun c hc => by rw [dF, if_pos (by rw [s.dl]; exact ⟨hc.1, hc.2.1⟩)]
  have hA : ∀ c, dF d c = INF ∨ ((0 ≤ dF d c ∧ dF d c ≤ a) ∧ Opn C c ∧ Org w h C sd d c (dF d c)) := fun c => by
    unfold dF
    split
    · rename_i e; rw [s.dl] at e; exact s.dA c e.1 e.2
    · exact .inl rfl
  refine ⟨fun c hn => ?_, fun c => ?_, fun c k ⟨z, hz, e1, e2⟩ => ?_, fun c m e1 e2 e3 => ?_, fun c => ?_⟩
  · rcases hA c with e | e
    · exact e
    · exact absurd e.2.1 hn
  · rcases hA c with e | e
    · exact .inl e
    · exact .inr (by omega)
  · have ho := hc.sdo z hz
    rw [← e1, ← e2, hin _ ho.1]
    rcases s.sC z hz with f | f | f
    · cases f
    · exact absurd f nw
    · exact f
  · rw [hin c e1]
    rw [hin m e2.1] at e3 ⊢
    rcases s.rD m c e2.1 (by omega) (nb_symm e1 e2) (fun f => f) with f | f
    · exact f
    · exact absurd f nw
  · rcases hA c with e | ⟨e1, e2, e3⟩
    · exact .inl e
    · rcases e3 with f | ⟨m, f1, f2, f3⟩
      · exact .inr (.inl f)
      · refine .inr (.inr ⟨m, f1, ?_, by rw [hin m f1.1]; exact f3⟩)
        have := s.dA m f1.1.1 f1.1.2.1
        rw [hin m f1.1]; omega
/-- at the beginning -/
theorem Sw.start (hc : SwC w h C sd) (todo : List Seed) (h1 : ∀ s, s ∈ todo ↔ s ∈ sd) (h2 : todo.Pairwise fun x y => x.key ≤ y.key) (hT : (todo.length : Int) + 4 * C.length ≤ T) :
    Sw w h C sd T 0 0 noB todo (List.replicate C.length INF) 0 0 ex0 := by
  have hr : RingOk noB 0 0 := by
    refine ⟨by rw [noB, List.length_replicate], fun x hx => ?_, ?_⟩
    · have := List.eq_of_mem_replicate hx; subst this; simp
    · rw [noB, List.map_replicate, List.sum_replicate_nat]; simp [Bkt.q]
  have hu : uns (List.replicate C.length INF) = C.length := by simp [uns]
  have hkb := kb_le (d := List.replicate C.length INF) (by simpa using hc.small)
  have hg : ∀ c : Int, 0 ≤ c → c < C.length → gAt (List.replicate C.length INF) c = INF := fun c e1 e2 => by
    rw [gAt_get (by simp; omega)]; simp
  have nw : ∀ {a k it : Int}, ¬ Wt noB a k it := wt_none hr
  refine ⟨hr, ⟨by omega, by omega, fun e => by omega⟩, by simp, fun c e1 e2 => .inl (hg c e1 e2), fun k it e => absurd e nw, fun s hs => .inl ((h1 s).2 hs), fun m c e1 e2 _ _ => absurd (hg m e1.1 e1.2.1) e2, ⟨fun s hs => ⟨(h1 s).1 hs, (hc.sdo s ((h1 s).1 hs)).2.1⟩, h2⟩, ?_, by omega⟩
  rw [hu]; omega
end
end Hd
end
section
namespace Hd
set_option maxRecDepth 100000
open Go

theorem may_s {t : Tile} {l : List Seed} : (!decide (∃ x ∈ l, (fun s => !decide (MaySd t s)) x = true)) = decide (∀ s ∈ l, MaySd t s) := by
  rw [← decide_not]; refine decide_eq_decide.2 ?_
  constructor
  · intro h s hs
    by_cases e : MaySd t s
    · exact e
    · exact absurd ⟨s, hs, by simp [e]⟩ h
  · rintro h ⟨s, hs, e⟩
    simp [h s hs] at e

theorem seeds_May (tc lv : Value) (t : Tile) (l : List Seed) (hl : t.c.length ≤ 2^30) (hl2 : l.length ≤ 2^30) : Spec PP 82 #[tileV tc t, lv] [Sl eB tc t.c, Sl eS lv l] (fun v M => v = .bool (decide (MayS t l)) ∧ M = [Sl eB tc t.c, Sl eS lv l]) := by
  refine spec_of (Go.Proofs.Tryz.func82) rfl rfl rfl (by exact fc_enters_82) ?_
  intro g F
  try dsimp only [List.cons_append, List.nil_append]
  refine r_seq ?_
  refine r_reg ?_
  refine ws (st_xo (xo_box rfl rfl) rfl rfl rfl ?_)
  rintro _ _ ⟨b2, rfl, rfl⟩
  refine ws (st_po (po_assign rfl) rfl rfl rfl ?_)
  refine s_nil ?_
  refine at_then_wp ?_
  refine r_seq ?_
  refine r_seq ?_
  refine r_reg ?_
  refine ws (st_po (po_loada rfl (by exact fc_agg_41_3) (by rfl)) rfl rfl rfl ?_)
  refine ws (st_call (co_fn rfl rfl) (tile_May tc t hl) (by infer_instance) rfl rfl rfl ?_)
  rintro _ _ ⟨rfl, rfl⟩
  try dsimp only [List.cons_append, List.nil_append]
  refine ws (st_po (po_not rfl) rfl rfl rfl ?_)
  refine s_nil ?_
  refine at_then_wp ?_
  first | refine r_cond_not rfl ?_ ?_ | refine r_cond_dec rfl ?_ ?_ | refine r_cond rfl ?_ ?_
  · intro h
    refine r_seq ?_
    refine r_reg ?_
    refine ws (st_po (po_assign rfl) rfl rfl rfl ?_)
    refine s_nil ?_
    refine at_then_wp ?_
    refine r_ret ?_
    refine at_then_ret ?_
    refine at_ret1 rfl (rv_tmp rfl) ⟨_, ⟨by rw [decide_eq_false (fun k => h k.1)], rfl⟩, ?_⟩
    try dsimp only [List.cons_append, List.nil_append]
    exact ent
  · intro h
    refine r_skip ?_
    refine at_then_wp ?_
    refine r_seq ?_
    refine r_reg ?_
    refine ws (st_po (po_move rfl) rfl rfl rfl ?_)
    refine ws (st_po (po_func rfl rfl) rfl rfl rfl ?_)
    refine ws (st_call (co_fn rfl rfl) (contains_S 107 [.pointer (some ⟨b2, 0, none⟩)] (All [tileB b2 tc t, Sl eB tc t.c]) (fun s => !decide (MaySd t s)) lv l hl2 (fun x => (seeds_May1 b2 tc t x hl h.1 h.2.1).all)) (by infer_instance) rfl rfl rfl ?_)
    rintro _ _ ⟨rfl, rfl⟩
    try dsimp only [List.cons_append, List.nil_append]
    refine ws (st_po (po_not rfl) rfl rfl rfl ?_)
    refine ws (st_po (po_assign rfl) rfl rfl rfl ?_)
    refine s_nil ?_
    refine at_then_wp ?_
    refine r_ret ?_
    refine at_ret1 rfl (rv_tmp rfl) ⟨_, ⟨by rw [may_s]; simp [MayS, h], rfl⟩, ?_⟩
    try dsimp only [List.cons_append, List.nil_append]
    exact ent

/-- 8.2 -/
def bestF (c s : Int) (bo : Int × Bool) (x : Seed) : Int × Bool := if x.cell = c ∧ x.side = s ∧ (bo.2 = false ∨ x.key < bo.1) then (x.key, true) else bo
def bestN (l : List Seed) (c s : Int) : Int := (l.foldl (bestF c s) (1099511627776, false)).1

theorem seeds_Best (lv : Value) (l : List Seed) (c s : Int) (hl : l.length ≤ 2^30) : Spec PP 86 #[lv, .int .i64 c, .int .i64 s] [Sl eS lv l] (fun v M => v = .int .i64 (bestN l c s) ∧ M = [Sl eS lv l]) := by
  refine spec_of (Go.Proofs.Tryz.func86) rfl rfl rfl (by exact fc_enters_86) ?_
  intro g F
  try dsimp only [List.cons_append, List.nil_append]
  refine r_seq ?_
  refine r_reg ?_
  refine ws (st_po (po_assign rfl) rfl rfl rfl ?_)
  refine s_nil ?_
  refine at_then_wp ?_
  refine r_seq ?_
  refine r_reg ?_
  refine ws (st_po (po_assign rfl) rfl rfl rfl ?_)
  refine ws (st_po (po_assign rfl) rfl rfl rfl ?_)
  refine s_nil ?_
  refine at_then_wp ?_
  refine r_seq ?_
  refine r_seq ?_
  refine r_reg ?_
  refine ws (st_po (po_move rfl) rfl rfl rfl ?_)
  refine ws (st_po (po_len rfl (by exact fc_slice_32_45_3)) rfl rfl rfl ?_)
  refine ws (st_po (po_move rfl) rfl rfl rfl ?_)
  refine s_nil ?_
  refine at_then_wp ?_
  refine r_block ?_
  refine r_loop (S := Nat × Int × Bool) (fun ⟨k, b, o⟩ => [(7, .int .i64 b), (8, .bool o), (13, .int .i64 k)]) [(1, _), (2, _), (11, _), (12, _)] (fun ⟨k, b, o⟩ => [Sl eS lv l, F]) (fun ⟨k, b, o⟩ => k ≤ l.length ∧ (l.take k).foldl (bestF c s) (1099511627776, false) = (b, o)) (fun ⟨k, b, o⟩ => l.length - k) ((0, 1099511627776, false)) (And.intro rfl (And.intro rfl (And.intro rfl (And.intro rfl (trivial))))) (And.intro rfl (And.intro rfl (And.intro rfl (trivial)))) (⟨by omega, rfl⟩) ent ?_
  rintro ⟨k, b, o⟩ ⟨hk, hI⟩
  try dsimp only
  refine r_seq ?_
  refine r_reg ?_
  refine ws (st_po (po_lt rfl rfl) rfl rfl rfl ?_)
  refine s_nil ?_
  refine at_then_wp ?_
  refine r_seq ?_
  first | refine r_cond_not rfl ?_ ?_ | refine r_cond_dec rfl ?_ ?_ | refine r_cond rfl ?_ ?_
  · intro hlt
    cases o
    · skip
      refine r_skip ?_
      refine at_then_wp ?_
      refine r_seq ?_
      refine r_block ?_
      refine r_seq ?_
      refine r_reg ?_
      refine ws (st_po (po_iaddr rfl rfl (by exact fc_slice_32_45_3) (by first | omega | (simp only [List.length_nil, List.length_cons, List.length_append, List.length_replicate, List.length_set, List.length_map, List.length_take, List.length_drop]; omega)) (by first | omega | (simp only [List.length_nil, List.length_cons, List.length_append, List.length_replicate, List.length_set, List.length_map, List.length_take, List.length_drop]; omega))) rfl rfl rfl ?_)
      refine ws (st_po (ld_eS rfl (List.getElem?_eq_getElem (by first | omega | (simp only [List.length_nil, List.length_cons, List.length_append, List.length_replicate, List.length_set, List.length_map, List.length_take, List.length_drop]; omega))) (by exact fc_agg_45_3)) rfl rfl rfl ?_)
      refine ws (st_xo (xo_alloc (by exact fc_zero_45)) rfl rfl rfl ?_)
      rintro _ _ ⟨b10, rfl, rfl⟩
      refine ws (st_so (so_storea1 rfl rfl (by exact fc_agg_45_3) rfl rfl) rfl rfl ?_)
      refine s_nil ?_
      refine at_then_wp ?_
      refine r_seq ?_
      refine r_reg ?_
      refine ws (st_po (po_faddr rfl (by exact fc_field_45_0_0)) rfl rfl rfl ?_)
      refine ws (st_po (po_load rfl (by exact fc_flat_3) (by rfl)) rfl rfl rfl ?_)
      refine ws (st_po (po_move rfl) rfl rfl rfl ?_)
      refine ws (st_po (po_eq rfl rfl) rfl rfl rfl ?_)
      by_cases h1 : (l[k]'(by omega)).cell = c
      · skip
        refine ws (st_po (po_bt (po_move rfl) (decide_eq_true h1)) rfl rfl rfl ?_)
        refine ws (st_po (po_faddr rfl (by exact fc_field_45_1_1)) rfl rfl rfl ?_)
        refine ws (st_po (po_load rfl (by exact fc_flat_3) (by rfl)) rfl rfl rfl ?_)
        refine ws (st_po (po_move rfl) rfl rfl rfl ?_)
        refine ws (st_po (po_eq rfl rfl) rfl rfl rfl ?_)
        refine ws (st_po (po_pick_t rfl rfl) rfl rfl rfl ?_)
        by_cases h2 : (l[k]'(by omega)).side = s
        · skip
          refine ws (st_po (po_bt (po_move rfl) (decide_eq_true h2)) rfl rfl rfl ?_)
          refine ws (st_po (po_move rfl) rfl rfl rfl ?_)
          refine ws (st_po (po_not rfl) rfl rfl rfl ?_)
          refine ws (st_po (po_bt (po_move rfl) (rfl)) rfl rfl rfl ?_)
          refine ws (st_no rfl rfl rfl ?_)
          refine ws (st_no rfl rfl rfl ?_)
          refine ws (st_no rfl rfl rfl ?_)
          refine ws (st_no rfl rfl rfl ?_)
          refine ws (st_po (po_pick_t rfl rfl) rfl rfl rfl ?_)
          refine ws (st_po (po_pick_t rfl rfl) rfl rfl rfl ?_)
          refine s_nil ?_
          refine at_then_wp ?_
          refine r_cond_t rfl rfl ?_
          refine r_reg ?_
          refine ws (st_po (po_faddr rfl (by exact fc_field_45_2_2)) rfl rfl rfl ?_)
          refine ws (st_po (po_load rfl (by exact fc_flat_3) (by rfl)) rfl rfl rfl ?_)
          refine ws (st_po (po_assign rfl) rfl rfl rfl ?_)
          refine ws (st_po (po_assign rfl) rfl rfl rfl ?_)
          refine s_nil ?_
          refine at_block_normal ?_
          refine at_then_wp ?_
          refine r_reg ?_
          refine ws (st_po (po_add' rfl rfl (by omega) (by omega)) rfl rfl rfl ?_)
          refine ws (st_po (po_move rfl) rfl rfl rfl ?_)
          refine s_nil ?_
          exact at_again ((k + 1, (l[k]'(by omega)).key, true)) (And.intro rfl (And.intro rfl (And.intro rfl (trivial)))) (And.intro rfl (And.intro rfl (And.intro rfl (And.intro rfl (trivial))))) (⟨by omega, by rw [take_snoc l k (by omega), List.foldl_append, hI]; simp [bestF, h1, h2]⟩) (by omega) ent
        · skip
          refine ws (st_po (po_bf (po_move rfl) (decide_eq_false h2)) rfl rfl rfl ?_)
          refine ws (st_no rfl rfl rfl ?_)
          refine ws (st_no rfl rfl rfl ?_)
          refine ws (st_no rfl rfl rfl ?_)
          refine ws (st_no rfl rfl rfl ?_)
          refine ws (st_no rfl rfl rfl ?_)
          refine ws (st_no rfl rfl rfl ?_)
          refine ws (st_no rfl rfl rfl ?_)
          refine ws (st_no rfl rfl rfl ?_)
          refine ws (st_po (po_pick_f rfl rfl) rfl rfl rfl ?_)
          refine s_nil ?_
          refine at_then_wp ?_
          refine r_cond_f rfl rfl ?_
          refine r_skip ?_
          refine at_block_normal ?_
          refine at_then_wp ?_
          refine r_reg ?_
          refine ws (st_po (po_add' rfl rfl (by omega) (by omega)) rfl rfl rfl ?_)
          refine ws (st_po (po_move rfl) rfl rfl rfl ?_)
          refine s_nil ?_
          exact at_again ((k + 1, b, false)) (And.intro rfl (And.intro rfl (And.intro rfl (trivial)))) (And.intro rfl (And.intro rfl (And.intro rfl (And.intro rfl (trivial))))) (⟨by omega, by rw [take_snoc l k (by omega), List.foldl_append, hI]; simp [bestF, h1, h2]⟩) (by omega) ent
      · skip
        refine ws (st_po (po_bf (po_move rfl) (decide_eq_false h1)) rfl rfl rfl ?_)
        refine ws (st_no rfl rfl rfl ?_)
        refine ws (st_no rfl rfl rfl ?_)
        refine ws (st_no rfl rfl rfl ?_)
        refine ws (st_no rfl rfl rfl ?_)
        refine ws (st_po (po_pick_f rfl rfl) rfl rfl rfl ?_)
        refine ws (st_po (po_move rfl) rfl rfl rfl ?_)
        refine ws (st_no rfl rfl rfl ?_)
        refine ws (st_no rfl rfl rfl ?_)
        refine ws (st_no rfl rfl rfl ?_)
        refine ws (st_no rfl rfl rfl ?_)
        refine ws (st_no rfl rfl rfl ?_)
        refine ws (st_no rfl rfl rfl ?_)
        refine ws (st_no rfl rfl rfl ?_)
        refine ws (st_no rfl rfl rfl ?_)
        refine ws (st_po (po_pick_f rfl rfl) rfl rfl rfl ?_)
        refine s_nil ?_
        refine at_then_wp ?_
        refine r_cond_f rfl rfl ?_
        refine r_skip ?_
        refine at_block_normal ?_
        refine at_then_wp ?_
        refine r_reg ?_
        refine ws (st_po (po_add' rfl rfl (by omega) (by omega)) rfl rfl rfl ?_)
        refine ws (st_po (po_move rfl) rfl rfl rfl ?_)
        refine s_nil ?_
        exact at_again ((k + 1, b, false)) (And.intro rfl (And.intro rfl (And.intro rfl (trivial)))) (And.intro rfl (And.intro rfl (And.intro rfl (And.intro rfl (trivial))))) (⟨by omega, by rw [take_snoc l k (by omega), List.foldl_append, hI]; simp [bestF, h1]⟩) (by omega) ent
    · skip
      refine r_skip ?_
      refine at_then_wp ?_
      refine r_seq ?_
      refine r_block ?_
      refine r_seq ?_
      refine r_reg ?_
      refine ws (st_po (po_iaddr rfl rfl (by exact fc_slice_32_45_3) (by first | omega | (simp only [List.length_nil, List.length_cons, List.length_append, List.length_replicate, List.length_set, List.length_map, List.length_take, List.length_drop]; omega)) (by first | omega | (simp only [List.length_nil, List.length_cons, List.length_append, List.length_replicate, List.length_set, List.length_map, List.length_take, List.length_drop]; omega))) rfl rfl rfl ?_)
      refine ws (st_po (ld_eS rfl (List.getElem?_eq_getElem (by first | omega | (simp only [List.length_nil, List.length_cons, List.length_append, List.length_replicate, List.length_set, List.length_map, List.length_take, List.length_drop]; omega))) (by exact fc_agg_45_3)) rfl rfl rfl ?_)
      refine ws (st_xo (xo_alloc (by exact fc_zero_45)) rfl rfl rfl ?_)
      rintro _ _ ⟨b10, rfl, rfl⟩
      refine ws (st_so (so_storea1 rfl rfl (by exact fc_agg_45_3) rfl rfl) rfl rfl ?_)
      refine s_nil ?_
      refine at_then_wp ?_
      refine r_seq ?_
      refine r_reg ?_
      refine ws (st_po (po_faddr rfl (by exact fc_field_45_0_0)) rfl rfl rfl ?_)
      refine ws (st_po (po_load rfl (by exact fc_flat_3) (by rfl)) rfl rfl rfl ?_)
      refine ws (st_po (po_move rfl) rfl rfl rfl ?_)
      refine ws (st_po (po_eq rfl rfl) rfl rfl rfl ?_)
      by_cases h1 : (l[k]'(by omega)).cell = c
      · skip
        refine ws (st_po (po_bt (po_move rfl) (decide_eq_true h1)) rfl rfl rfl ?_)
        refine ws (st_po (po_faddr rfl (by exact fc_field_45_1_1)) rfl rfl rfl ?_)
        refine ws (st_po (po_load rfl (by exact fc_flat_3) (by rfl)) rfl rfl rfl ?_)
        refine ws (st_po (po_move rfl) rfl rfl rfl ?_)
        refine ws (st_po (po_eq rfl rfl) rfl rfl rfl ?_)
        refine ws (st_po (po_pick_t rfl rfl) rfl rfl rfl ?_)
        by_cases h2 : (l[k]'(by omega)).side = s
        · skip
          refine ws (st_po (po_bt (po_move rfl) (decide_eq_true h2)) rfl rfl rfl ?_)
          refine ws (st_po (po_move rfl) rfl rfl rfl ?_)
          refine ws (st_po (po_not rfl) rfl rfl rfl ?_)
          refine ws (st_po (po_bf (po_move rfl) (rfl)) rfl rfl rfl ?_)
          refine ws (st_po (po_faddr rfl (by exact fc_field_45_2_2)) rfl rfl rfl ?_)
          refine ws (st_po (po_load rfl (by exact fc_flat_3) (by rfl)) rfl rfl rfl ?_)
          refine ws (st_po (po_move rfl) rfl rfl rfl ?_)
          refine ws (st_po (po_lt rfl rfl) rfl rfl rfl ?_)
          refine ws (st_po (po_pick_f rfl rfl) rfl rfl rfl ?_)
          refine ws (st_po (po_pick_t rfl rfl) rfl rfl rfl ?_)
          refine s_nil ?_
          refine at_then_wp ?_
          first | refine r_cond_not rfl ?_ ?_ | refine r_cond_dec rfl ?_ ?_ | refine r_cond rfl ?_ ?_
          · intro h3
            refine r_reg ?_
            refine ws (st_po (po_faddr rfl (by exact fc_field_45_2_2)) rfl rfl rfl ?_)
            refine ws (st_po (po_load rfl (by exact fc_flat_3) (by rfl)) rfl rfl rfl ?_)
            refine ws (st_po (po_assign rfl) rfl rfl rfl ?_)
            refine ws (st_po (po_assign rfl) rfl rfl rfl ?_)
            refine s_nil ?_
            refine at_block_normal ?_
            refine at_then_wp ?_
            refine r_reg ?_
            refine ws (st_po (po_add' rfl rfl (by omega) (by omega)) rfl rfl rfl ?_)
            refine ws (st_po (po_move rfl) rfl rfl rfl ?_)
            refine s_nil ?_
            simp only [Int.toNat_natCast] at h3
            exact at_again ((k + 1, (l[k]'(by omega)).key, true)) (And.intro rfl (And.intro rfl (And.intro rfl (trivial)))) (And.intro rfl (And.intro rfl (And.intro rfl (And.intro rfl (trivial))))) (⟨by omega, by rw [take_snoc l k (by omega), List.foldl_append, hI]; simp [bestF, h1, h2, h3]⟩) (by omega) ent
          · intro h3
            refine r_skip ?_
            refine at_block_normal ?_
            refine at_then_wp ?_
            refine r_reg ?_
            refine ws (st_po (po_add' rfl rfl (by omega) (by omega)) rfl rfl rfl ?_)
            refine ws (st_po (po_move rfl) rfl rfl rfl ?_)
            refine s_nil ?_
            simp only [Int.toNat_natCast] at h3
            exact at_again ((k + 1, b, true)) (And.intro rfl (And.intro rfl (And.intro rfl (trivial)))) (And.intro rfl (And.intro rfl (And.intro rfl (And.intro rfl (trivial))))) (⟨by omega, by rw [take_snoc l k (by omega), List.foldl_append, hI]; simp [bestF, h1, h2, h3]⟩) (by omega) ent
        · skip
          refine ws (st_po (po_bf (po_move rfl) (decide_eq_false h2)) rfl rfl rfl ?_)
          refine ws (st_no rfl rfl rfl ?_)
          refine ws (st_no rfl rfl rfl ?_)
          refine ws (st_no rfl rfl rfl ?_)
          refine ws (st_no rfl rfl rfl ?_)
          refine ws (st_no rfl rfl rfl ?_)
          refine ws (st_no rfl rfl rfl ?_)
          refine ws (st_no rfl rfl rfl ?_)
          refine ws (st_no rfl rfl rfl ?_)
          refine ws (st_po (po_pick_f rfl rfl) rfl rfl rfl ?_)
          refine s_nil ?_
          refine at_then_wp ?_
          refine r_cond_f rfl rfl ?_
          refine r_skip ?_
          refine at_block_normal ?_
          refine at_then_wp ?_
          refine r_reg ?_
          refine ws (st_po (po_add' rfl rfl (by omega) (by omega)) rfl rfl rfl ?_)
          refine ws (st_po (po_move rfl) rfl rfl rfl ?_)
          refine s_nil ?_
          exact at_again ((k + 1, b, true)) (And.intro rfl (And.intro rfl (And.intro rfl (trivial)))) (And.intro rfl (And.intro rfl (And.intro rfl (And.intro rfl (trivial))))) (⟨by omega, by rw [take_snoc l k (by omega), List.foldl_append, hI]; simp [bestF, h1, h2]⟩) (by omega) ent
      · skip
        refine ws (st_po (po_bf (po_move rfl) (decide_eq_false h1)) rfl rfl rfl ?_)
        refine ws (st_no rfl rfl rfl ?_)
        refine ws (st_no rfl rfl rfl ?_)
        refine ws (st_no rfl rfl rfl ?_)
        refine ws (st_no rfl rfl rfl ?_)
        refine ws (st_po (po_pick_f rfl rfl) rfl rfl rfl ?_)
        refine ws (st_po (po_move rfl) rfl rfl rfl ?_)
        refine ws (st_no rfl rfl rfl ?_)
        refine ws (st_no rfl rfl rfl ?_)
        refine ws (st_no rfl rfl rfl ?_)
        refine ws (st_no rfl rfl rfl ?_)
        refine ws (st_no rfl rfl rfl ?_)
        refine ws (st_no rfl rfl rfl ?_)
        refine ws (st_no rfl rfl rfl ?_)
        refine ws (st_no rfl rfl rfl ?_)
        refine ws (st_po (po_pick_f rfl rfl) rfl rfl rfl ?_)
        refine s_nil ?_
        refine at_then_wp ?_
        refine r_cond_f rfl rfl ?_
        refine r_skip ?_
        refine at_block_normal ?_
        refine at_then_wp ?_
        refine r_reg ?_
        refine ws (st_po (po_add' rfl rfl (by omega) (by omega)) rfl rfl rfl ?_)
        refine ws (st_po (po_move rfl) rfl rfl rfl ?_)
        refine s_nil ?_
        exact at_again ((k + 1, b, true)) (And.intro rfl (And.intro rfl (And.intro rfl (trivial)))) (And.intro rfl (And.intro rfl (And.intro rfl (And.intro rfl (trivial))))) (⟨by omega, by rw [take_snoc l k (by omega), List.foldl_append, hI]; simp [bestF, h1]⟩) (by omega) ent
  · intro hlt
    have e : l.take k = l := List.take_of_length_le (by omega)
    rw [e] at hI
    refine r_exit ?_
    refine at_then_exit ?_
    refine at_then_exit ?_
    refine at_block_here ?_
    refine at_then_wp ?_
    refine r_seq ?_
    refine r_reg ?_
    refine ws (st_po (po_move rfl) rfl rfl rfl ?_)
    refine ws (st_po (po_assign rfl) rfl rfl rfl ?_)
    refine s_nil ?_
    refine at_then_wp ?_
    refine r_ret ?_
    refine at_ret1 rfl (rv_tmp rfl) ⟨_, ⟨by rw [bestN, hI], rfl⟩, ?_⟩
    try dsimp only [List.cons_append, List.nil_append]
    exact ent
end Hd
end
section
namespace Hd
set_option maxRecDepth 100000
open Go

theorem seed_ne {xs : List Seed} {i j : Nat} {a b : Seed} (h : a ≠ b) (ha : xs[j]? = some a) (hb : xs[i]? = some b) {hi : i < xs.length} {hj : j < xs.length} : ¬ (xs[j].cell = xs[i].cell ∧ xs[j].side = xs[i].side ∧ xs[j].key = xs[i].key) := by
  rw [List.getElem?_eq_getElem hj] at ha
  rw [List.getElem?_eq_getElem hi] at hb
  cases ha; cases hb
  rintro ⟨h1, h2, h3⟩
  apply h
  generalize xs[j] = x at *; generalize xs[i] = y at *
  cases x; cases y; simp_all
theorem compact_S (s : Value) (xs : List Seed) (hl : xs.length ≤ 2^30) (hd : ∀ i, (h : i + 1 < xs.length) → xs[i + 1] ≠ xs[i]) : Spec PP 78 #[s] [Sl eS s xs] (fun v M => v = s ∧ M = [Sl eS s xs]) := by
  refine spec_of (Go.Proofs.Tryz.func78) rfl rfl rfl (by exact fc_enters_78) ?_
  intro g F
  try dsimp only [List.cons_append, List.nil_append]
  refine r_seq ?_
  refine r_reg ?_
  refine ws (st_po (po_assign rfl) rfl rfl rfl ?_)
  refine s_nil ?_
  refine at_then_wp ?_
  refine r_seq ?_
  refine r_seq ?_
  refine r_reg ?_
  refine ws (st_po (po_move rfl) rfl rfl rfl ?_)
  refine ws (st_po (po_len rfl (by exact fc_slice_32_45_3)) rfl rfl rfl ?_)
  refine ws (st_po (po_lt rfl rfl) rfl rfl rfl ?_)
  refine s_nil ?_
  refine at_then_wp ?_
  first | refine r_cond_not rfl ?_ ?_ | refine r_cond_dec rfl ?_ ?_ | refine r_cond rfl ?_ ?_
  · intro h0
    refine r_seq ?_
    refine r_reg ?_
    refine ws (st_po (po_move rfl) rfl rfl rfl ?_)
    refine ws (st_po (po_assign rfl) rfl rfl rfl ?_)
    refine s_nil ?_
    refine at_then_wp ?_
    refine r_ret ?_
    refine at_then_ret ?_
    refine at_ret1 rfl (rv_tmp rfl) ⟨_, ⟨rfl, rfl⟩, ?_⟩
    try dsimp only [List.cons_append, List.nil_append]
    exact ent
  · intro h0
    refine r_skip ?_
    refine at_then_wp ?_
    refine r_seq ?_
    refine r_seq ?_
    refine r_reg ?_
    refine ws (st_po (po_assign rfl) rfl rfl rfl ?_)
    refine s_nil ?_
    refine at_then_wp ?_
    refine r_block ?_
    refine r_loop (S := Nat) (fun k => [(3, .int .i64 k)]) [(0, _)] (fun k => [Sl eS s xs, F]) (fun k => 1 ≤ k ∧ k ≤ xs.length) (fun k => xs.length - k) (1) (And.intro rfl (trivial)) (And.intro rfl (trivial)) (by omega) ent ?_
    rintro k ⟨hk1, hk2⟩
    try dsimp only
    refine r_seq ?_
    refine r_seq ?_
    refine r_reg ?_
    refine ws (st_po (po_move rfl) rfl rfl rfl ?_)
    refine ws (st_po (po_move rfl) rfl rfl rfl ?_)
    refine ws (st_po (po_len rfl (by exact fc_slice_32_45_3)) rfl rfl rfl ?_)
    refine ws (st_po (po_lt rfl rfl) rfl rfl rfl ?_)
    refine s_nil ?_
    refine at_then_wp ?_
    first | refine r_cond_not rfl ?_ ?_ | refine r_cond_dec rfl ?_ ?_ | refine r_cond rfl ?_ ?_
    · intro hlt
      refine r_skip ?_
      refine at_then_wp ?_
      refine r_seq ?_
      refine r_block ?_
      refine r_seq ?_
      refine r_ord [] _ [(0, 1), (1, 1), (2, 0), (3, 0), (4, 1), (5, 1), (6, 1), (7, 0), (8, 0), (9, 1)] fc_mixed (by kernel_rfl) (fun _ h => h) ?_
      refine o_fr rfl (po_move rfl) rfl rfl rfl ?_
      refine o_fr rfl (po_move rfl) rfl rfl rfl ?_
      refine o_rd rfl (po_iaddr rfl rfl (by exact fc_slice_32_45_3) (by first | omega | (simp only [List.length_nil, List.length_cons, List.length_append, List.length_replicate, List.length_set, List.length_map, List.length_take, List.length_drop]; omega)) (by first | omega | (simp only [List.length_nil, List.length_cons, List.length_append, List.length_replicate, List.length_set, List.length_map, List.length_take, List.length_drop]; omega))) (by first | exact fun _ h => h | exact ent) rfl rfl rfl ?_
      refine o_rd rfl (ld_eS rfl (List.getElem?_eq_getElem (by first | omega | (simp only [List.length_nil, List.length_cons, List.length_append, List.length_replicate, List.length_set, List.length_map, List.length_take, List.length_drop]; omega))) (by exact fc_agg_45_3)) (by first | exact fun _ h => h | exact ent) rfl rfl rfl ?_
      refine o_fr rfl (po_move rfl) rfl rfl rfl ?_
      refine o_fr rfl (po_move rfl) rfl rfl rfl ?_
      refine o_fr rfl (po_sub' rfl rfl (by omega) (by omega)) rfl rfl rfl ?_
      refine o_rd rfl (po_iaddr rfl rfl (by exact fc_slice_32_45_3) (by first | omega | (simp only [List.length_nil, List.length_cons, List.length_append, List.length_replicate, List.length_set, List.length_map, List.length_take, List.length_drop]; omega)) (by first | omega | (simp only [List.length_nil, List.length_cons, List.length_append, List.length_replicate, List.length_set, List.length_map, List.length_take, List.length_drop]; omega))) (by first | exact fun _ h => h | exact ent) rfl rfl rfl ?_
      refine o_rd rfl (ld_eS rfl (List.getElem?_eq_getElem (by first | omega | (simp only [List.length_nil, List.length_cons, List.length_append, List.length_replicate, List.length_set, List.length_map, List.length_take, List.length_drop]; omega))) (by exact fc_agg_45_3)) (by first | exact fun _ h => h | exact ent) rfl rfl rfl ?_
      refine o_fr rfl (po_st3eq rfl rfl (by exact fc_st3_45)) rfl rfl rfl ?_
      refine o_nil ?_
      refine at_then_wp ?_
      first | refine r_dec_f rfl (seed_ne (hd (k - 1) (by omega)) (i := ((k : Int) - 1).toNat) (j := (k : Int).toNat) (by rw [← List.getElem?_eq_getElem]; congr 1; omega) (by rw [← List.getElem?_eq_getElem]; congr 1; omega)) ?_ | refine r_nd_f rfl (seed_ne (hd (k - 1) (by omega)) (i := ((k : Int) - 1).toNat) (j := (k : Int).toNat) (by rw [← List.getElem?_eq_getElem]; congr 1; omega) (by rw [← List.getElem?_eq_getElem]; congr 1; omega)) ?_ | refine r_cond_f rfl (seed_ne (hd (k - 1) (by omega)) (i := ((k : Int) - 1).toNat) (j := (k : Int).toNat) (by rw [← List.getElem?_eq_getElem]; congr 1; omega) (by rw [← List.getElem?_eq_getElem]; congr 1; omega)) ?_
      refine r_skip ?_
      refine at_block_normal ?_
      refine at_then_wp ?_
      refine r_reg ?_
      refine ws (st_po (po_move rfl) rfl rfl rfl ?_)
      refine ws (st_po (po_add' rfl rfl (by omega) (by omega)) rfl rfl rfl ?_)
      refine ws (st_po (po_assign rfl) rfl rfl rfl ?_)
      refine s_nil ?_
      exact at_again (k + 1) (And.intro rfl (trivial)) (And.intro rfl (trivial)) (by omega) (by omega) ent
    · intro hlt
      refine r_exit ?_
      refine at_then_exit ?_
      refine at_then_exit ?_
      refine at_block_here ?_
      refine at_then_wp ?_
      refine r_seq ?_
      refine r_reg ?_
      refine ws (st_po (po_move rfl) rfl rfl rfl ?_)
      refine ws (st_po (po_assign rfl) rfl rfl rfl ?_)
      refine s_nil ?_
      refine at_then_wp ?_
      refine r_ret ?_
      refine at_ret1 rfl (rv_tmp rfl) ⟨_, ⟨rfl, rfl⟩, ?_⟩
      try dsimp only [List.cons_append, List.nil_append]
      exact ent

/-- the order of seeds -/
def ordI (a b : Seed) : Int := orI [cmpI a.key b.key, cmpI a.cell b.cell, cmpI a.side b.side]
theorem seeds_order (a b : Seed) : Spec PP 77 #[.agg #[.int .i64 a.cell, .int .i64 a.side, .int .i64 a.key], .agg #[.int .i64 b.cell, .int .i64 b.side, .int .i64 b.key]] [] (fun v M => v = .int .i64 (ordI a b) ∧ M = []) := by
  refine spec_of (Go.Proofs.Tryz.func77) rfl rfl rfl (by exact fc_enters_77) ?_
  intro g F
  try dsimp only [List.cons_append, List.nil_append]
  refine r_seq ?_
  refine r_reg ?_
  refine ws (st_xo (xo_box rfl rfl) rfl rfl rfl ?_)
  rintro _ _ ⟨b2, rfl, rfl⟩
  refine ws (st_xo (xo_box rfl rfl) rfl rfl rfl ?_)
  rintro _ _ ⟨b3, rfl, rfl⟩
  refine ws (st_po (po_assign rfl) rfl rfl rfl ?_)
  refine s_nil ?_
  refine at_then_wp ?_
  refine r_seq ?_
  refine r_ord [] _ [(0, 1), (1, 0), (2, 1), (3, 0), (5, 1), (6, 0), (7, 1), (8, 0), (10, 1), (11, 0), (12, 1), (13, 0), (4, 2), (9, 2), (14, 2), (15, 2), (16, 2), (17, 1)] fc_mixed (by kernel_rfl) (fun _ h => h) ?_
  refine o_fr rfl (po_faddr rfl (by exact fc_field_45_2_2)) rfl rfl rfl ?_
  refine o_rd rfl (po_load rfl (by exact fc_flat_3) (by rfl)) (by first | exact fun _ h => h | exact ent) rfl rfl rfl ?_
  refine o_fr rfl (po_faddr rfl (by exact fc_field_45_2_2)) rfl rfl rfl ?_
  refine o_rd rfl (po_load rfl (by exact fc_flat_3) (by rfl)) (by first | exact fun _ h => h | exact ent) rfl rfl rfl ?_
  refine o_fr rfl (po_faddr rfl (by exact fc_field_45_0_0)) rfl rfl rfl ?_
  refine o_rd rfl (po_load rfl (by exact fc_flat_3) (by rfl)) (by first | exact fun _ h => h | exact ent) rfl rfl rfl ?_
  refine o_fr rfl (po_faddr rfl (by exact fc_field_45_0_0)) rfl rfl rfl ?_
  refine o_rd rfl (po_load rfl (by exact fc_flat_3) (by rfl)) (by first | exact fun _ h => h | exact ent) rfl rfl rfl ?_
  refine o_fr rfl (po_faddr rfl (by exact fc_field_45_1_1)) rfl rfl rfl ?_
  refine o_rd rfl (po_load rfl (by exact fc_flat_3) (by rfl)) (by first | exact fun _ h => h | exact ent) rfl rfl rfl ?_
  refine o_fr rfl (po_faddr rfl (by exact fc_field_45_1_1)) rfl rfl rfl ?_
  refine o_rd rfl (po_load rfl (by exact fc_flat_3) (by rfl)) (by first | exact fun _ h => h | exact ent) rfl rfl rfl ?_
  refine o_st rfl (st_call (co_fn rfl rfl) (cmp_Compare a.key b.key) (by infer_instance) rfl rfl rfl ?_)
  rintro _ _ ⟨rfl, rfl⟩
  try dsimp only [List.cons_append, List.nil_append]
  refine ⟨fun _ => (by first | exact fun _ h => h | exact ent), ?_⟩
  refine o_st rfl (st_call (co_fn rfl rfl) (cmp_Compare a.cell b.cell) (by infer_instance) rfl rfl rfl ?_)
  rintro _ _ ⟨rfl, rfl⟩
  try dsimp only [List.cons_append, List.nil_append]
  refine ⟨fun _ => (by first | exact fun _ h => h | exact ent), ?_⟩
  refine o_st rfl (st_call (co_fn rfl rfl) (cmp_Compare a.side b.side) (by infer_instance) rfl rfl rfl ?_)
  rintro _ _ ⟨rfl, rfl⟩
  try dsimp only [List.cons_append, List.nil_append]
  refine ⟨fun _ => (by first | exact fun _ h => h | exact ent), ?_⟩
  refine o_st rfl (st_xo (xo_bslice eI [_, _, _] rfl (by exact fc_slice_35_3_1) (by exact fc_elem_3_1_8) ⟨rfl, rfl, ⟨rfl, rfl, ⟨rfl, rfl, trivial⟩⟩⟩ rfl (by decide)) rfl rfl rfl ?_)
  rintro v20 _ rfl
  refine ⟨fun _ => (by first | exact fun _ h => h | exact ent), ?_⟩
  refine o_st rfl (st_call (co_fn rfl rfl) (cmp_Or v20 [cmpI a.key b.key, cmpI a.cell b.cell, cmpI a.side b.side] (by simp)) (by infer_instance) rfl rfl rfl ?_)
  rintro _ _ ⟨rfl, rfl⟩
  try dsimp only [List.cons_append, List.nil_append]
  refine ⟨fun _ => (by first | exact fun _ h => h | exact ent), ?_⟩
  refine o_fr rfl (po_assign rfl) rfl rfl rfl ?_
  refine o_nil ?_
  refine at_then_wp ?_
  refine r_ret ?_
  refine at_ret1 rfl (rv_tmp rfl) ⟨_, ⟨rfl, rfl⟩, ?_⟩
  try dsimp only [List.cons_append, List.nil_append]
  exact ent
end Hd
end
section
namespace Hd
set_option maxRecDepth 100000
open Go

/-- a sweeper: its struct and what hangs on it -/
structure SwS where
  b : Nat
  w : Int
  h : Int
  tc : Value
  C : List Int
  rb : Nat
  tv : Value
  dv : Value
abbrev SwS.l (s : SwS) (a l : Int) (B : List Bkt) (todo : List Seed) (d : List Int) : List HP :=
  [Blk s.b 119 [.int .i64 s.w, .int .i64 s.h, s.tc, ringP s.rb, s.tv, s.dv], Sl eB s.tc s.C, Sl eS s.tv todo, Sl eI s.dv d, ringB s.rb a l B, All (B.map slK)]
abbrev SwS.lf (s : SwS) (F : HP) (a l : Int) (B : List Bkt) (todo : List Seed) (d : List Int) : List HP :=
  [Blk s.b 119 [.int .i64 s.w, .int .i64 s.h, s.tc, ringP s.rb, s.tv, s.dv], Sl eB s.tc s.C, Sl eS s.tv todo, Sl eI s.dv d, ringB s.rb a l B, All (B.map slK), F]
abbrev SwS.p (s : SwS) : Value := .pointer (some ⟨s.b, 0, none⟩)

theorem sum_le {X : Type} (f : X → Nat) (t : Nat) : ∀ (B : List X), (∀ x ∈ B, f x ≤ t) → (B.map f).sum ≤ B.length * t
  | [], _ => by simp
  | z :: B, h => by
    have h1 := h z (by simp)
    have h2 := sum_le f t B (fun x hx => h x (by simp [hx]))
    simp only [List.map_cons, List.sum_cons, List.length_cons, Nat.succ_mul]; omega
theorem wt_cnt {B : List Bkt} {l tot : Int} (ok : RingOk B l tot) : l ≤ 256 * tot := by
  have := sum_le (fun x : Bkt => x.q.length) tot.toNat B (fun x hx => by
    have := ok.bk x hx
    unfold Bkt.q; rw [List.length_drop]; omega)
  rw [ok.len] at this
  have h0 : ∃ x, x ∈ B := ⟨_, List.getElem_mem (show 0 < B.length by rw [ok.len]; decide)⟩
  obtain ⟨x, hx⟩ := h0
  have := ok.bk x hx
  rw [ok.cnt]; omega
theorem exK_step {w h loc k m c : Int} (h1 : ¬ exK w h loc (k + 1) m c) : (m = loc ∧ stepN w h loc k = c) ∨ ¬ exK w h loc k m c := by
  by_cases e : m = loc ∧ stepN w h loc k = c
  · exact .inl e
  · refine .inr fun ⟨f1, s, f2, f3⟩ => ?_
    by_cases e2 : s = k
    · subst e2; exact e ⟨f1, f3⟩
    · exact h1 ⟨f1, s, by omega, f3⟩

theorem sweep_reach {sd : List Seed} {T a l : Int} {B : List Bkt} {todo : List Seed} {d : List Int} {tot rem : Int} {loc k : Int} (s : SwS) (hc : SwC s.w s.h s.C sd) (sw : Sw s.w s.h s.C sd T a l B todo d tot rem (exK s.w s.h loc k)) (hT : T ≤ 2^32)
    (hr : 1 ≤ rem) (hk : 0 ≤ k ∧ k < 4) (ho : Opn s.C loc) (hd : gAt d loc = a) (hm : 0 ≤ stepN s.w s.h loc k) :
    Spec PP 143 #[s.p, .int .i64 (stepN s.w s.h loc k), .int .i64 (a + gAt s.C loc)] (s.l a l B todo d)
      (fun v M => ∃ l' B' tot', v = .tuple #[] ∧ Sw s.w s.h s.C sd T a l' B' todo d tot' (rem - 1) (exK s.w s.h loc (k + 1)) ∧ l' ≤ l + 1 ∧ M = s.l a l' B' todo d) := by
  have hst := (step_ok (w := s.w) (h := s.h) (c := loc) ⟨hc.may, ho.1, by rw [← hc.len]; exact ho.2.1⟩ hk.1 (by omega)).2 hm
  generalize hme : stepN s.w s.h loc k = m at *
  have hml : m < s.C.length := by rw [hc.len]; exact hst.1.2.2
  have hdl := sw.dl
  have hcl := hc.cost ⟨ho.1, ho.2.1⟩
  have hkb := kb_le (d := d) (by rw [hdl]; exact hc.small)
  have ha := sw.a0
  have hri := sw.ring
  have htt := sw.tt
  have hI : INF = 1099511627776 := rfl
  have hlr : 0 ≤ l := by rw [hri.cnt]; omega
  obtain ⟨x, hx⟩ : ∃ x, B[((a + gAt s.C loc) % 256).toNat]? = some x := ⟨_, List.getElem?_eq_getElem (by rw [hri.len]; omega)⟩
  have hxb := hri.bk x (List.mem_of_getElem? hx)
  have hle := wt_cnt hri
  refine spec_of (Go.Proofs.Tryz.func143) rfl rfl rfl (by exact fc_enters_143) ?_
  intro g F
  try dsimp only [List.cons_append, List.nil_append, SwS.l, SwS.lf]
  refine r_seq ?_
  refine r_reg ?_
  refine ws (st_po (po_move rfl) rfl rfl rfl ?_)
  refine ws (st_po (po_nil rfl) rfl rfl rfl ?_)
  refine ws (st_po (po_faddr rfl (by exact fc_field_119_0_0)) rfl rfl rfl ?_)
  refine ws (st_po (po_faddr rfl (by exact fc_field_41_2_2)) rfl rfl rfl ?_)
  refine ws (st_po (po_load rfl (by exact fc_flat_22) (by rfl)) rfl rfl rfl ?_)
  refine ws (st_po (po_move rfl) rfl rfl rfl ?_)
  refine ws (st_po (po_iaddr rfl rfl (by exact fc_slice_22_5_1) (by first | omega | (simp only [List.length_nil, List.length_cons, List.length_append, List.length_replicate, List.length_set, List.length_map, List.length_take, List.length_drop]; omega)) (by first | omega | (simp only [List.length_nil, List.length_cons, List.length_append, List.length_replicate, List.length_set, List.length_map, List.length_take, List.length_drop]; omega))) rfl rfl rfl ?_)
  refine ws (st_po (po_load_sl rfl (List.getElem?_eq_getElem (by first | omega | (simp only [List.length_nil, List.length_cons, List.length_append, List.length_replicate, List.length_set, List.length_map, List.length_take, List.length_drop]; omega))) (by exact fc_flat_5) (by rfl)) rfl rfl rfl ?_)
  refine ws (st_po (po_ne rfl rfl) rfl rfl rfl ?_)
  by_cases h1 : s.C[m.toNat]'(by omega) ≠ 255
  · skip
    refine ws (st_po (po_bt (po_move rfl) (decide_eq_true h1)) rfl rfl rfl ?_)
    refine ws (st_po (po_move rfl) rfl rfl rfl ?_)
    refine ws (st_po (po_nil rfl) rfl rfl rfl ?_)
    refine ws (st_po (po_faddr rfl (by exact fc_field_119_3_5)) rfl rfl rfl ?_)
    refine ws (st_po (po_load rfl (by exact fc_flat_35) (by rfl)) rfl rfl rfl ?_)
    refine ws (st_po (po_move rfl) rfl rfl rfl ?_)
    refine ws (st_po (po_iaddr rfl rfl (by exact fc_slice_35_3_1) (by first | omega | (simp only [List.length_nil, List.length_cons, List.length_append, List.length_replicate, List.length_set, List.length_map, List.length_take, List.length_drop]; omega)) (by first | omega | (simp only [List.length_nil, List.length_cons, List.length_append, List.length_replicate, List.length_set, List.length_map, List.length_take, List.length_drop]; omega))) rfl rfl rfl ?_)
    refine ws (st_po (po_load_sl rfl (List.getElem?_eq_getElem (by first | omega | (simp only [List.length_nil, List.length_cons, List.length_append, List.length_replicate, List.length_set, List.length_map, List.length_take, List.length_drop]; omega))) (by exact fc_flat_3) (by rfl)) rfl rfl rfl ?_)
    refine ws (st_po (po_eq rfl rfl) rfl rfl rfl ?_)
    refine ws (st_po (po_pick_t rfl rfl) rfl rfl rfl ?_)
    refine s_nil ?_
    refine at_then_wp ?_
    first | refine r_cond_not rfl ?_ ?_ | refine r_cond_dec rfl ?_ ?_ | refine r_cond rfl ?_ ?_
    · intro h2
      refine r_reg ?_
      refine ws (st_po (po_move rfl) rfl rfl rfl ?_)
      refine ws (st_po (po_nil rfl) rfl rfl rfl ?_)
      refine ws (st_po (po_faddr rfl (by exact fc_field_119_1_3)) rfl rfl rfl ?_)
      refine ws (st_po (po_load rfl (by exact fc_flat_115) (by rfl)) rfl rfl rfl ?_)
      refine ws (st_po (po_move rfl) rfl rfl rfl ?_)
      refine ws (st_po (po_move rfl) rfl rfl rfl ?_)
      refine ws (st_call (co_fn rfl rfl) (ring_Put s.rb a l B (a + gAt s.C loc) m x ha.1 (by omega) hri.len hx (by omega) (by omega)) (by infer_instance) rfl rfl rfl ?_)
      rintro v31 _ (⟨g1, g2, rfl, y, hy1, hy2, rfl⟩ | ⟨g1, rfl, rfl⟩)
      · try dsimp only [List.cons_append, List.nil_append, SwS.l, SwS.lf]
        refine s_nil ?_
        refine at_end0 rfl ⟨_, ⟨l + 1, _, tot + 1, rfl, sw.put hc (m := loc) (c := m) hr ho hd ⟨⟨hst.1.2.1, hml, by rw [gAt_get (by omega)]; exact h1⟩, k, hk, hme⟩ (by rw [gAt_get (by omega)]; exact h2) hx hy1 hy2 (fun m' c' g => (exK_step g).elim (fun e => .inl ⟨e.1, by rw [← e.2, hme]⟩) .inr), by omega, rfl⟩, ?_⟩
        try dsimp only [List.cons_append, List.nil_append, SwS.l, SwS.lf]
        exact ent
      · try dsimp only [List.cons_append, List.nil_append, SwS.l, SwS.lf]
        exact absurd ⟨by omega, by have := ho.2.2; omega⟩ g1
    · intro h2
      refine r_skip ?_
      refine at_end0 rfl ⟨_, ⟨l, B, tot, rfl, sw.skip (by omega) (by omega) (fun m' c' e1 e2 e3 g4 => (exK_step g4).elim (fun e => .inr (.inl (by
      have hmm : c' = m := by rw [← e.2, hme]
      have h3 := sw.dA m hst.1.2.1 hml
      rw [gAt_get (by omega)] at h3
      rcases h3 with h3 | h3
      · exact absurd h3 h2
      · rw [hmm, e.1, hd, gAt_get (by omega)]; omega))) .inl), by omega, rfl⟩, ?_⟩
      try dsimp only [List.cons_append, List.nil_append, SwS.l, SwS.lf]
      exact ent
  · skip
    refine ws (st_po (po_bf (po_move rfl) (decide_eq_false h1)) rfl rfl rfl ?_)
    refine ws (st_no rfl rfl rfl ?_)
    refine ws (st_no rfl rfl rfl ?_)
    refine ws (st_no rfl rfl rfl ?_)
    refine ws (st_no rfl rfl rfl ?_)
    refine ws (st_no rfl rfl rfl ?_)
    refine ws (st_no rfl rfl rfl ?_)
    refine ws (st_no rfl rfl rfl ?_)
    refine ws (st_no rfl rfl rfl ?_)
    refine ws (st_po (po_pick_f rfl rfl) rfl rfl rfl ?_)
    refine s_nil ?_
    refine at_then_wp ?_
    refine r_cond_f rfl rfl ?_
    refine r_skip ?_
    refine at_end0 rfl ⟨_, ⟨l, B, tot, rfl, sw.skip (by omega) (by omega) (fun m' c' _ _ g3 g4 => (exK_step g4).elim (fun e => absurd (by rw [← e.2, hme, gAt_get (by omega)]; exact Classical.not_not.1 h1) g3.1.2.2) .inl), by omega, rfl⟩, ?_⟩
    try dsimp only [List.cons_append, List.nil_append, SwS.l, SwS.lf]
    exact ent
theorem sweep_reach2 {sd : List Seed} {T a l : Int} {B : List Bkt} {todo : List Seed} {d : List Int} {tot rem : Int} {loc k m key : Int} (s : SwS) (hc : SwC s.w s.h s.C sd) (sw : Sw s.w s.h s.C sd T a l B todo d tot rem (exK s.w s.h loc k)) (hT : T ≤ 2^32)
    (hr : 1 ≤ rem) (hk : 0 ≤ k ∧ k < 4) (ho : Opn s.C loc) (hd : gAt d loc = a) (hme : stepN s.w s.h loc k = m) (hm : 0 ≤ m) (hkey : key = a + gAt s.C loc) :
    Spec PP 143 #[s.p, .int .i64 m, .int .i64 key] (s.l a l B todo d)
      (fun v M => ∃ l' B' tot', v = .tuple #[] ∧ Sw s.w s.h s.C sd T a l' B' todo d tot' (rem - 1) (exK s.w s.h loc (k + 1)) ∧ l' ≤ l + 1 ∧ M = s.l a l' B' todo d) := by
  subst hme hkey
  exact sweep_reach s hc sw hT hr hk ho hd hm
theorem Sw.none {w h : Int} {C : List Int} {sd : List Seed} {T a l : Int} {B : List Bkt} {todo : List Seed} {d : List Int} {tot rem : Int} {loc k : Int} (s : Sw w h C sd T a l B todo d tot rem (exK w h loc k)) (hr : 1 ≤ rem) (hs : stepN w h loc k = -1) : Sw w h C sd T a l B todo d tot (rem - 1) (exK w h loc (k + 1)) :=
  s.skip (by omega) (by omega) fun m c _ _ e3 e4 => (exK_step e4).elim (fun e => absurd e3.1.1 (by rw [← e.2, hs]; decide)) .inl

theorem sweep_around {sd : List Seed} {T a l : Int} {B : List Bkt} {todo : List Seed} {d : List Int} {tot : Int} {loc : Int} (s : SwS) (hc : SwC s.w s.h s.C sd) (sw : Sw s.w s.h s.C sd T a l B todo d tot 4 (exK s.w s.h loc 0)) (hT : T ≤ 2^32)
    (ho : Opn s.C loc) (hd : gAt d loc = a) :
    Spec PP 113 #[s.p, .int .i64 loc] (s.l a l B todo d)
      (fun v M => ∃ l' B' tot', v = .tuple #[] ∧ Sw s.w s.h s.C sd T a l' B' todo d tot' 0 ex0 ∧ l' ≤ l + 4 ∧ M = s.l a l' B' todo d) := by
  have hic : IsC s.w s.h loc := ⟨hc.may, ho.1, by rw [← hc.len]; exact ho.2.1⟩
  obtain ⟨s0, s1, s2, s3⟩ := step_val hic
  have hdl := sw.dl
  have ho1 := ho.1
  have ho2 := ho.2.1
  have hm := hc.may
  have hsm := hc.small
  have hxy := isc_xy hic
  have hcl := hc.cost ⟨ho.1, ho.2.1⟩
  have hkb := kb_le (d := d) (by rw [hdl]; exact hc.small)
  have ha := sw.a0
  have hcg : gAt s.C loc = s.C[loc.toNat]'(by omega) := gAt_get (by omega)
  have hdg : gAt d loc = d[loc.toNat]'(by omega) := gAt_get (by omega)
  have hkey : d[loc.toNat]'(by omega) + s.C[loc.toNat]'(by omega) = a + gAt s.C loc := by omega
  have g3 := Int.mul_nonneg hxy.2.1.1 (show 0 ≤ s.w by omega)
  have g0 : 0 < loc / s.w → 0 ≤ loc - s.w := fun h => by
    have := mul_lt (a := loc % s.w) (b := loc / s.w - 1) (c := s.w) (d := s.h) (by omega) (by omega) (by omega) (by omega)
    rw [Int.sub_mul, Int.one_mul] at this; omega
  refine spec_of (Go.Proofs.Tryz.func113) rfl rfl rfl (by exact fc_enters_113) ?_
  intro g F
  try dsimp only [List.cons_append, List.nil_append, SwS.l, SwS.lf]
  refine r_seq ?_
  refine r_ord [] _ [(0, 1), (1, 1), (2, 1), (3, 0), (4, 1), (5, 0), (6, 0), (7, 1), (8, 1), (9, 1), (10, 1), (11, 0), (12, 1), (13, 0), (14, 0), (15, 1), (16, 1), (17, 1)] fc_mixed (by kernel_rfl) (fun _ h => h) ?_
  refine o_fr rfl (po_move rfl) rfl rfl rfl ?_
  refine o_fr rfl (po_nil rfl) rfl rfl rfl ?_
  refine o_fr rfl (po_faddr rfl (by exact fc_field_119_3_5)) rfl rfl rfl ?_
  refine o_rd rfl (po_load rfl (by exact fc_flat_35) (by rfl)) (by first | exact fun _ h => h | exact ent) rfl rfl rfl ?_
  refine o_fr rfl (po_move rfl) rfl rfl rfl ?_
  refine o_rd rfl (po_iaddr rfl rfl (by exact fc_slice_35_3_1) (by first | omega | (simp only [List.length_nil, List.length_cons, List.length_append, List.length_replicate, List.length_set, List.length_map, List.length_take, List.length_drop]; omega)) (by first | omega | (simp only [List.length_nil, List.length_cons, List.length_append, List.length_replicate, List.length_set, List.length_map, List.length_take, List.length_drop]; omega))) (by first | exact fun _ h => h | exact ent) rfl rfl rfl ?_
  refine o_rd rfl (po_load_sl rfl (List.getElem?_eq_getElem (by first | omega | (simp only [List.length_nil, List.length_cons, List.length_append, List.length_replicate, List.length_set, List.length_map, List.length_take, List.length_drop]; omega))) (by exact fc_flat_3) (by rfl)) (by first | exact fun _ h => h | exact ent) rfl rfl rfl ?_
  refine o_fr rfl (po_move rfl) rfl rfl rfl ?_
  refine o_fr rfl (po_nil rfl) rfl rfl rfl ?_
  refine o_fr rfl (po_faddr rfl (by exact fc_field_119_0_0)) rfl rfl rfl ?_
  refine o_fr rfl (po_faddr rfl (by exact fc_field_41_2_2)) rfl rfl rfl ?_
  refine o_rd rfl (po_load rfl (by exact fc_flat_22) (by rfl)) (by first | exact fun _ h => h | exact ent) rfl rfl rfl ?_
  refine o_fr rfl (po_move rfl) rfl rfl rfl ?_
  refine o_rd rfl (po_iaddr rfl rfl (by exact fc_slice_22_5_1) (by first | omega | (simp only [List.length_nil, List.length_cons, List.length_append, List.length_replicate, List.length_set, List.length_map, List.length_take, List.length_drop]; omega)) (by first | omega | (simp only [List.length_nil, List.length_cons, List.length_append, List.length_replicate, List.length_set, List.length_map, List.length_take, List.length_drop]; omega))) (by first | exact fun _ h => h | exact ent) rfl rfl rfl ?_
  refine o_rd rfl (po_load_sl rfl (List.getElem?_eq_getElem (by first | omega | (simp only [List.length_nil, List.length_cons, List.length_append, List.length_replicate, List.length_set, List.length_map, List.length_take, List.length_drop]; omega))) (by exact fc_flat_5) (by rfl)) (by first | exact fun _ h => h | exact ent) rfl rfl rfl ?_
  refine o_fr rfl (po_conv_w rfl (by exact fc_int_5_u8) (by exact fc_int_3_i64) (wrap_i64 _ (by omega) (by omega))) rfl rfl rfl ?_
  refine o_fr rfl (po_add' rfl rfl (by omega) (by omega)) rfl rfl rfl ?_
  refine o_fr rfl (po_assign rfl) rfl rfl rfl ?_
  refine o_nil ?_
  refine at_then_wp ?_
  refine r_seq ?_
  refine r_ord [] _ [(0, 1), (1, 1), (2, 1), (3, 1), (4, 1), (5, 0), (6, 1), (7, 1), (8, 1), (9, 1), (10, 1), (11, 1), (12, 0), (13, 1), (14, 1), (15, 1)] fc_mixed (by kernel_rfl) (fun _ h => h) ?_
  refine o_fr rfl (po_move rfl) rfl rfl rfl ?_
  refine o_fr rfl (po_move rfl) rfl rfl rfl ?_
  refine o_fr rfl (po_nil rfl) rfl rfl rfl ?_
  refine o_fr rfl (po_faddr rfl (by exact fc_field_119_0_0)) rfl rfl rfl ?_
  refine o_fr rfl (po_faddr rfl (by exact fc_field_41_0_0)) rfl rfl rfl ?_
  refine o_rd rfl (po_load rfl (by exact fc_flat_3) (by rfl)) (by first | exact fun _ h => h | exact ent) rfl rfl rfl ?_
  refine o_fr rfl (po_rem' rfl rfl (by omega) (by omega)) rfl rfl rfl ?_
  refine o_fr rfl (po_move rfl) rfl rfl rfl ?_
  refine o_fr rfl (po_move rfl) rfl rfl rfl ?_
  refine o_fr rfl (po_nil rfl) rfl rfl rfl ?_
  refine o_fr rfl (po_faddr rfl (by exact fc_field_119_0_0)) rfl rfl rfl ?_
  refine o_fr rfl (po_faddr rfl (by exact fc_field_41_0_0)) rfl rfl rfl ?_
  refine o_rd rfl (po_load rfl (by exact fc_flat_3) (by rfl)) (by first | exact fun _ h => h | exact ent) rfl rfl rfl ?_
  refine o_fr rfl (po_quo' rfl rfl (by omega) (by omega) (by omega)) rfl rfl rfl ?_
  refine o_fr rfl (po_assign rfl) rfl rfl rfl ?_
  refine o_fr rfl (po_assign rfl) rfl rfl rfl ?_
  refine o_nil ?_
  refine at_then_wp ?_
  refine r_joink (S := Int × List Bkt × Int) (fun ⟨l1, B1, t1⟩ => []) [(0, _), (1, _), (4, _), (5, _), (6, _)] (fun ⟨l1, B1, t1⟩ => s.lf F a l1 B1 todo d) (fun ⟨l1, B1, t1⟩ => Sw s.w s.h s.C sd T a l1 B1 todo d t1 (4 - 1) (exK s.w s.h loc (0 + 1)) ∧ l1 ≤ l + 1) (And.intro rfl (And.intro rfl (And.intro rfl (And.intro rfl (And.intro rfl (trivial)))))) ?_ ?_
  · skip
    refine r_seq ?_
    refine r_reg ?_
    refine ws (st_po (po_move rfl) rfl rfl rfl ?_)
    refine ws (st_po (po_gt rfl rfl) rfl rfl rfl ?_)
    refine s_nil ?_
    refine at_then_wp ?_
    first | refine r_cond_not rfl ?_ ?_ | refine r_cond_dec rfl ?_ ?_ | refine r_cond rfl ?_ ?_
    · intro h0
      refine r_reg ?_
      refine ws (st_po (po_move rfl) rfl rfl rfl ?_)
      refine ws (st_po (po_move rfl) rfl rfl rfl ?_)
      refine ws (st_po (po_move rfl) rfl rfl rfl ?_)
      refine ws (st_po (po_nil rfl) rfl rfl rfl ?_)
      refine ws (st_po (po_faddr rfl (by exact fc_field_119_0_0)) rfl rfl rfl ?_)
      refine ws (st_po (po_faddr rfl (by exact fc_field_41_0_0)) rfl rfl rfl ?_)
      refine ws (st_po (po_load rfl (by exact fc_flat_3) (by rfl)) rfl rfl rfl ?_)
      refine ws (st_po (po_sub' rfl rfl (by omega) (by omega)) rfl rfl rfl ?_)
      refine ws (st_po (po_move rfl) rfl rfl rfl ?_)
      refine ws (st_call (co_fn rfl rfl) (sweep_reach2 s hc sw hT (by omega) (by omega) ho hd (s0.trans (if_pos h0)) (g0 h0) hkey) (by infer_instance) rfl rfl rfl ?_)
      rintro v49 _ ⟨l1, B1, t1, rfl, w1, hl1, rfl⟩
      try dsimp only [List.cons_append, List.nil_append, SwS.l, SwS.lf]
      refine s_nil ?_
      exact at_join ((l1, B1, t1)) (trivial) (And.intro rfl (And.intro rfl (And.intro rfl (And.intro rfl (And.intro rfl (trivial)))))) (⟨w1, hl1⟩) ent
    · intro h0
      refine r_skip ?_
      exact at_join ((l, B, tot)) (trivial) (And.intro rfl (And.intro rfl (And.intro rfl (And.intro rfl (And.intro rfl (trivial)))))) (⟨sw.none (by omega) (s0.trans (if_neg h0)), by omega⟩) ent
  · rintro ⟨l1, B1, t1⟩ ⟨w1, hl1⟩
    try dsimp only [List.cons_append, List.nil_append, SwS.l, SwS.lf]
    refine r_joink (S := Int × List Bkt × Int) (fun ⟨l2, B2, t2⟩ => []) [(0, _), (1, _), (4, _), (5, _), (6, _)] (fun ⟨l2, B2, t2⟩ => s.lf F a l2 B2 todo d) (fun ⟨l2, B2, t2⟩ => Sw s.w s.h s.C sd T a l2 B2 todo d t2 (4 - 1 - 1) (exK s.w s.h loc (0 + 1 + 1)) ∧ l2 ≤ l + 2) (And.intro rfl (And.intro rfl (And.intro rfl (And.intro rfl (And.intro rfl (trivial)))))) ?_ ?_
    · skip
      refine r_seq ?_
      refine r_reg ?_
      refine ws (st_po (po_move rfl) rfl rfl rfl ?_)
      refine ws (st_po (po_move rfl) rfl rfl rfl ?_)
      refine ws (st_po (po_nil rfl) rfl rfl rfl ?_)
      refine ws (st_po (po_faddr rfl (by exact fc_field_119_0_0)) rfl rfl rfl ?_)
      refine ws (st_po (po_faddr rfl (by exact fc_field_41_0_0)) rfl rfl rfl ?_)
      refine ws (st_po (po_load rfl (by exact fc_flat_3) (by rfl)) rfl rfl rfl ?_)
      refine ws (st_po (po_sub' rfl rfl (by omega) (by omega)) rfl rfl rfl ?_)
      refine ws (st_po (po_lt rfl rfl) rfl rfl rfl ?_)
      refine s_nil ?_
      refine at_then_wp ?_
      first | refine r_cond_not rfl ?_ ?_ | refine r_cond_dec rfl ?_ ?_ | refine r_cond rfl ?_ ?_
      · intro h1
        refine r_reg ?_
        refine ws (st_po (po_move rfl) rfl rfl rfl ?_)
        refine ws (st_po (po_move rfl) rfl rfl rfl ?_)
        refine ws (st_po (po_add' rfl rfl (by omega) (by omega)) rfl rfl rfl ?_)
        refine ws (st_po (po_move rfl) rfl rfl rfl ?_)
        refine ws (st_call (co_fn rfl rfl) (sweep_reach2 s hc w1 hT (by omega) (by omega) ho hd (s1.trans (if_pos h1)) (by omega) hkey) (by infer_instance) rfl rfl rfl ?_)
        rintro v62 _ ⟨l2, B2, t2, rfl, w2, hl2, rfl⟩
        try dsimp only [List.cons_append, List.nil_append, SwS.l, SwS.lf]
        refine s_nil ?_
        exact at_join ((l2, B2, t2)) (trivial) (And.intro rfl (And.intro rfl (And.intro rfl (And.intro rfl (And.intro rfl (trivial)))))) (⟨w2, by omega⟩) ent
      · intro h1
        refine r_skip ?_
        exact at_join ((l1, B1, t1)) (trivial) (And.intro rfl (And.intro rfl (And.intro rfl (And.intro rfl (And.intro rfl (trivial)))))) (⟨w1.none (by omega) (s1.trans (if_neg h1)), by omega⟩) ent
    · rintro ⟨l2, B2, t2⟩ ⟨w2, hl2⟩
      try dsimp only [List.cons_append, List.nil_append, SwS.l, SwS.lf]
      refine r_joink (S := Int × List Bkt × Int) (fun ⟨l3, B3, t3⟩ => []) [(0, _), (1, _), (4, _), (5, _)] (fun ⟨l3, B3, t3⟩ => s.lf F a l3 B3 todo d) (fun ⟨l3, B3, t3⟩ => Sw s.w s.h s.C sd T a l3 B3 todo d t3 (4 - 1 - 1 - 1) (exK s.w s.h loc (0 + 1 + 1 + 1)) ∧ l3 ≤ l + 3) (And.intro rfl (And.intro rfl (And.intro rfl (And.intro rfl (trivial))))) ?_ ?_
      · skip
        refine r_seq ?_
        refine r_reg ?_
        refine ws (st_po (po_move rfl) rfl rfl rfl ?_)
        refine ws (st_po (po_move rfl) rfl rfl rfl ?_)
        refine ws (st_po (po_nil rfl) rfl rfl rfl ?_)
        refine ws (st_po (po_faddr rfl (by exact fc_field_119_0_0)) rfl rfl rfl ?_)
        refine ws (st_po (po_faddr rfl (by exact fc_field_41_1_1)) rfl rfl rfl ?_)
        refine ws (st_po (po_load rfl (by exact fc_flat_3) (by rfl)) rfl rfl rfl ?_)
        refine ws (st_po (po_sub' rfl rfl (by omega) (by omega)) rfl rfl rfl ?_)
        refine ws (st_po (po_lt rfl rfl) rfl rfl rfl ?_)
        refine s_nil ?_
        refine at_then_wp ?_
        first | refine r_cond_not rfl ?_ ?_ | refine r_cond_dec rfl ?_ ?_ | refine r_cond rfl ?_ ?_
        · intro h2
          refine r_reg ?_
          refine ws (st_po (po_move rfl) rfl rfl rfl ?_)
          refine ws (st_po (po_move rfl) rfl rfl rfl ?_)
          refine ws (st_po (po_move rfl) rfl rfl rfl ?_)
          refine ws (st_po (po_nil rfl) rfl rfl rfl ?_)
          refine ws (st_po (po_faddr rfl (by exact fc_field_119_0_0)) rfl rfl rfl ?_)
          refine ws (st_po (po_faddr rfl (by exact fc_field_41_0_0)) rfl rfl rfl ?_)
          refine ws (st_po (po_load rfl (by exact fc_flat_3) (by rfl)) rfl rfl rfl ?_)
          refine ws (st_po (po_add' rfl rfl (by omega) (by omega)) rfl rfl rfl ?_)
          refine ws (st_po (po_move rfl) rfl rfl rfl ?_)
          refine ws (st_call (co_fn rfl rfl) (sweep_reach2 s hc w2 hT (by omega) (by omega) ho hd (s2.trans (if_pos h2)) (by omega) hkey) (by infer_instance) rfl rfl rfl ?_)
          rintro v80 _ ⟨l3, B3, t3, rfl, w3, hl3, rfl⟩
          try dsimp only [List.cons_append, List.nil_append, SwS.l, SwS.lf]
          refine s_nil ?_
          exact at_join ((l3, B3, t3)) (trivial) (And.intro rfl (And.intro rfl (And.intro rfl (And.intro rfl (trivial))))) (⟨w3, by omega⟩) ent
        · intro h2
          refine r_skip ?_
          exact at_join ((l2, B2, t2)) (trivial) (And.intro rfl (And.intro rfl (And.intro rfl (And.intro rfl (trivial))))) (⟨w2.none (by omega) (s2.trans (if_neg h2)), by omega⟩) ent
      · rintro ⟨l3, B3, t3⟩ ⟨w3, hl3⟩
        try dsimp only [List.cons_append, List.nil_append, SwS.l, SwS.lf]
        refine r_seq ?_
        refine r_reg ?_
        refine ws (st_po (po_move rfl) rfl rfl rfl ?_)
        refine ws (st_po (po_gt rfl rfl) rfl rfl rfl ?_)
        refine s_nil ?_
        refine at_then_wp ?_
        first | refine r_cond_not rfl ?_ ?_ | refine r_cond_dec rfl ?_ ?_ | refine r_cond rfl ?_ ?_
        · intro h3
          refine r_reg ?_
          refine ws (st_po (po_move rfl) rfl rfl rfl ?_)
          refine ws (st_po (po_move rfl) rfl rfl rfl ?_)
          refine ws (st_po (po_sub' rfl rfl (by omega) (by omega)) rfl rfl rfl ?_)
          refine ws (st_po (po_move rfl) rfl rfl rfl ?_)
          refine ws (st_call (co_fn rfl rfl) (sweep_reach2 s hc w3 hT (by omega) (by omega) ho hd (s3.trans (if_pos h3)) (by omega) hkey) (by infer_instance) rfl rfl rfl ?_)
          rintro v87 _ ⟨l4, B4, t4, rfl, w4, hl4, rfl⟩
          try dsimp only [List.cons_append, List.nil_append, SwS.l, SwS.lf]
          refine s_nil ?_
          refine at_end0 rfl ⟨_, ⟨l4, B4, t4, rfl, w4.skip (by omega) (by omega) (fun _ _ _ _ _ _ => .inl (fun e => by obtain ⟨_, z, e1, _⟩ := e; omega)), by omega, rfl⟩, ?_⟩
          try dsimp only [List.cons_append, List.nil_append, SwS.l, SwS.lf]
          exact ent
        · intro h3
          refine r_skip ?_
          refine at_end0 rfl ⟨_, ⟨l3, B3, t3, rfl, (w3.none (by omega) (s3.trans (if_neg h3))).skip (by omega) (by omega) (fun _ _ _ _ _ _ => .inl (fun e => by obtain ⟨_, z, e1, _⟩ := e; omega)), by omega, rfl⟩, ?_⟩
          try dsimp only [List.cons_append, List.nil_append, SwS.l, SwS.lf]
          exact ent

theorem sweep_fill {sd : List Seed} {T a l : Int} {B : List Bkt} {todo : List Seed} {d : List Int} {tot : Int} (s : SwS) (hc : SwC s.w s.h s.C sd) (sw : Sw s.w s.h s.C sd T a l B todo d tot 0 ex0) (hT : T ≤ 2^32) :
    Spec PP 110 #[s.p] (s.l a l B todo d)
      (fun v M => ∃ a' l' B' tot' todo' tv', v = .tuple #[] ∧ Sw s.w s.h s.C sd T a' l' B' todo' d tot' 0 ex0 ∧ l' + todo'.length = l + todo.length ∧ (todo' = [] ∨ (1 ≤ l' ∧ ∀ z ∈ todo', a' + 256 ≤ z.key)) ∧ M = ({ s with tv := tv' } : SwS).l a' l' B' todo' d) := by
  have hkb := kb_le (d := d) (by rw [sw.dl]; exact hc.small)
  have hlr : 0 ≤ l := by rw [sw.ring.cnt]; omega
  refine spec_of (Go.Proofs.Tryz.func110) rfl rfl rfl (by exact fc_enters_110) ?_
  intro g F
  try dsimp only [List.cons_append, List.nil_append, SwS.l, SwS.lf]
  rcases todo with _ | ⟨s0, rest⟩
  · skip
    refine r_seq ?_
    refine r_seq ?_
    refine r_reg ?_
    refine ws (st_po (po_move rfl) rfl rfl rfl ?_)
    refine ws (st_po (po_nil rfl) rfl rfl rfl ?_)
    refine ws (st_po (po_faddr rfl (by exact fc_field_119_2_4)) rfl rfl rfl ?_)
    refine ws (st_po (po_load rfl (by exact fc_flat_32) (by rfl)) rfl rfl rfl ?_)
    refine ws (st_po (po_len rfl (by exact fc_slice_32_45_3)) rfl rfl rfl ?_)
    refine ws (st_po (po_gt rfl rfl) rfl rfl rfl ?_)
    refine ws (st_po (po_bf (po_move rfl) (decide_eq_false (by simp))) rfl rfl rfl ?_)
    refine ws (st_no rfl rfl rfl ?_)
    refine ws (st_no rfl rfl rfl ?_)
    refine ws (st_no rfl rfl rfl ?_)
    refine ws (st_no rfl rfl rfl ?_)
    refine ws (st_no rfl rfl rfl ?_)
    refine ws (st_no rfl rfl rfl ?_)
    refine ws (st_po (po_pick_f rfl rfl) rfl rfl rfl ?_)
    refine s_nil ?_
    refine at_then_wp ?_
    refine r_cond_f rfl rfl ?_
    refine r_skip ?_
    refine at_then_wp ?_
    refine r_block ?_
    refine r_loop (S := Unit) (fun ⟨⟩ => []) [(0, _)] (fun ⟨⟩ => s.lf F a l B [] d) (fun ⟨⟩ => True) (fun ⟨⟩ => 0) (()) (And.intro rfl (trivial)) (trivial) (trivial) ent ?_
    rintro ⟨⟩ -
    try dsimp only [List.cons_append, List.nil_append, SwS.l, SwS.lf]
    refine r_seq ?_
    refine r_seq ?_
    refine r_ord [25] _ [(0, 1), (1, 1), (2, 1), (3, 0), (4, 0), (5, 1), (6, 1), (7, 1), (8, 1), (9, 1), (10, 0), (11, 1), (12, 1), (13, 1), (14, 0), (15, 0), (16, 0), (17, 0), (18, 1), (19, 1), (20, 1), (21, 0), (22, 0), (23, 0), (24, 0), (25, 2), (26, 1)] fc_mixed (by kernel_rfl) (fun _ h => h) ?_
    refine o_fr rfl (po_move rfl) rfl rfl rfl ?_
    refine o_fr rfl (po_nil rfl) rfl rfl rfl ?_
    refine o_fr rfl (po_faddr rfl (by exact fc_field_119_2_4)) rfl rfl rfl ?_
    refine o_rd rfl (po_load rfl (by exact fc_flat_32) (by rfl)) (by first | exact fun _ h => h | exact ent) rfl rfl rfl ?_
    refine o_rd rfl (po_len rfl (by exact fc_slice_32_45_3)) (by first | exact fun _ h => h | exact ent) rfl rfl rfl ?_
    refine o_fr rfl (po_gt rfl rfl) rfl rfl rfl ?_
    refine o_fr rfl (po_bf (po_move rfl) (decide_eq_false (by simp))) rfl rfl rfl ?_
    refine o_no rfl rfl rfl rfl ?_
    refine o_no rfl rfl rfl rfl ?_
    refine o_no rfl rfl rfl rfl ?_
    refine o_nor rfl (by first | exact fun _ h => h | exact ent) rfl rfl rfl ?_
    refine o_no rfl rfl rfl rfl ?_
    refine o_no rfl rfl rfl rfl ?_
    refine o_no rfl rfl rfl rfl ?_
    refine o_nor rfl (by first | exact fun _ h => h | exact ent) rfl rfl rfl ?_
    refine o_nor rfl (by first | exact fun _ h => h | exact ent) rfl rfl rfl ?_
    refine o_nor rfl (by first | exact fun _ h => h | exact ent) rfl rfl rfl ?_
    refine o_nor rfl (by first | exact fun _ h => h | exact ent) rfl rfl rfl ?_
    refine o_no rfl rfl rfl rfl ?_
    refine o_no rfl rfl rfl rfl ?_
    refine o_no rfl rfl rfl rfl ?_
    refine o_nor rfl (by first | exact fun _ h => h | exact ent) rfl rfl rfl ?_
    refine o_nor rfl (by first | exact fun _ h => h | exact ent) rfl rfl rfl ?_
    refine o_nor rfl (by first | exact fun _ h => h | exact ent) rfl rfl rfl ?_
    refine o_nor rfl (by first | exact fun _ h => h | exact ent) rfl rfl rfl ?_
    refine o_st rfl (st_no rfl rfl rfl ?_)
    refine ⟨fun h => late_no h (by kernel_rfl), ?_⟩
    refine o_fr rfl (po_pick_f rfl rfl) rfl rfl rfl ?_
    refine o_nil ?_
    refine at_then_wp ?_
    refine r_cond_f rfl rfl ?_
    refine r_exit ?_
    refine at_then_exit ?_
    refine at_then_exit ?_
    refine at_block_here ?_
    refine at_end0 rfl ⟨_, ⟨a, l, B, tot, [], s.tv, rfl, sw, rfl, .inl rfl, rfl⟩, ?_⟩
    try dsimp only [List.cons_append, List.nil_append, SwS.l, SwS.lf]
    exact ent
  · skip
    refine r_joink (S := Int) (fun a1 => []) [(0, _)] (fun a1 => s.lf F a1 l B (s0 :: rest) d) (fun a1 => Sw s.w s.h s.C sd T a1 l B (s0 :: rest) d tot 0 ex0 ∧ (l = 0 → s0.key = a1)) (And.intro rfl (trivial)) ?_ ?_
    · skip
      refine r_seq ?_
      refine r_reg ?_
      refine ws (st_po (po_move rfl) rfl rfl rfl ?_)
      refine ws (st_po (po_nil rfl) rfl rfl rfl ?_)
      refine ws (st_po (po_faddr rfl (by exact fc_field_119_2_4)) rfl rfl rfl ?_)
      refine ws (st_po (po_load rfl (by exact fc_flat_32) (by rfl)) rfl rfl rfl ?_)
      refine ws (st_po (po_len rfl (by exact fc_slice_32_45_3)) rfl rfl rfl ?_)
      refine ws (st_po (po_gt rfl rfl) rfl rfl rfl ?_)
      refine ws (st_po (po_bt (po_move rfl) (decide_eq_true (by simp))) rfl rfl rfl ?_)
      refine ws (st_po (po_move rfl) rfl rfl rfl ?_)
      refine ws (st_po (po_nil rfl) rfl rfl rfl ?_)
      refine ws (st_po (po_faddr rfl (by exact fc_field_119_1_3)) rfl rfl rfl ?_)
      refine ws (st_po (po_load rfl (by exact fc_flat_115) (by rfl)) rfl rfl rfl ?_)
      refine ws (st_call (co_fn rfl rfl) (ring_Len s.rb a l B) (by infer_instance) rfl rfl rfl ?_)
      rintro v13 _ ⟨rfl, rfl⟩
      try dsimp only [List.cons_append, List.nil_append, SwS.l, SwS.lf]
      refine ws (st_po (po_eq rfl rfl) rfl rfl rfl ?_)
      refine ws (st_po (po_pick_t rfl rfl) rfl rfl rfl ?_)
      refine s_nil ?_
      refine at_then_wp ?_
      first | refine r_cond_not rfl ?_ ?_ | refine r_cond_dec rfl ?_ ?_ | refine r_cond rfl ?_ ?_
      · intro hl0
        subst hl0
        have hsl : 0 < (s0 :: rest).length := by simp
        have hs0 := sw.td.1 s0 (by simp)
        have hs1 := hc.sdo s0 hs0.1
        refine r_ord [11] _ [(0, 1), (1, 1), (2, 1), (3, 0), (4, 1), (5, 1), (6, 1), (7, 0), (8, 0), (9, 0), (10, 0), (11, 2)] fc_mixed (by kernel_rfl) (fun _ h => h) ?_
        refine o_fr rfl (po_move rfl) rfl rfl rfl ?_
        refine o_fr rfl (po_nil rfl) rfl rfl rfl ?_
        refine o_fr rfl (po_faddr rfl (by exact fc_field_119_1_3)) rfl rfl rfl ?_
        refine o_rd rfl (po_load rfl (by exact fc_flat_115) (by rfl)) (by first | exact fun _ h => h | exact ent) rfl rfl rfl ?_
        refine o_fr rfl (po_move rfl) rfl rfl rfl ?_
        refine o_fr rfl (po_nil rfl) rfl rfl rfl ?_
        refine o_fr rfl (po_faddr rfl (by exact fc_field_119_2_4)) rfl rfl rfl ?_
        refine o_rd rfl (po_load rfl (by exact fc_flat_32) (by rfl)) (by first | exact fun _ h => h | exact ent) rfl rfl rfl ?_
        refine o_rd rfl (po_iaddr rfl rfl (by exact fc_slice_32_45_3) (by first | omega | (simp only [List.length_nil, List.length_cons, List.length_append, List.length_replicate, List.length_set, List.length_map, List.length_take, List.length_drop]; omega)) (by first | omega | (simp only [List.length_nil, List.length_cons, List.length_append, List.length_replicate, List.length_set, List.length_map, List.length_take, List.length_drop]; omega))) (by first | exact fun _ h => h | exact ent) rfl rfl rfl ?_
        refine o_rd rfl (po_faddr_sl rfl (by omega) (by exact fc_field_45_2_2)) (by first | exact fun _ h => h | exact ent) rfl rfl rfl ?_
        refine o_rd rfl (po_load_sl rfl (List.getElem?_eq_getElem (by first | omega | (simp only [List.length_nil, List.length_cons, List.length_append, List.length_replicate, List.length_set, List.length_map, List.length_take, List.length_drop]; omega))) (by exact fc_flat_3) (by rfl)) (by first | exact fun _ h => h | exact ent) rfl rfl rfl ?_
        refine o_st rfl (st_call (co_fn rfl rfl) (ring_Jump s.rb a 0 B s0.key) (by infer_instance) rfl rfl rfl ?_)
        rintro v27 _ ⟨rfl, rfl⟩
        try dsimp only [List.cons_append, List.nil_append, SwS.l, SwS.lf]
        refine ⟨fun h => late_no h (by kernel_rfl), ?_⟩
        refine o_nil ?_
        rw [if_pos (show (0 : Int) ≤ 0 ∧ a ≤ s0.key ∧ s0.key ≤ 1099511627776 by omega)]
        exact at_join (s0.key) (trivial) (And.intro rfl (trivial)) (⟨sw.jump hc, fun _ => rfl⟩) ent
      · intro hl0
        refine r_skip ?_
        exact at_join (a) (trivial) (And.intro rfl (trivial)) (⟨sw, fun e => absurd e hl0⟩) ent
    · rintro a1 ⟨w1, hl1⟩
      try dsimp only [List.cons_append, List.nil_append, SwS.l, SwS.lf]
      refine r_block ?_
      refine r_loop (S := Int × List Bkt × Int × List Seed × Value) (fun ⟨l2, B2, t2, td, tv⟩ => []) [(0, _)] (fun ⟨l2, B2, t2, td, tv⟩ => ({ s with tv := tv } : SwS).lf F a1 l2 B2 td d) (fun ⟨l2, B2, t2, td, tv⟩ => Sw s.w s.h s.C sd T a1 l2 B2 td d t2 0 ex0 ∧ l2 + td.length = l + (s0 :: rest).length ∧ (l2 = 0 → ∀ z zs, td = z :: zs → z.key = a1) ∧ 0 ≤ l2) (fun ⟨l2, B2, t2, td, tv⟩ => td.length) ((l, B, tot, s0 :: rest, s.tv)) (And.intro rfl (trivial)) (trivial) (⟨w1, rfl, fun e z zs e2 => by cases e2; exact hl1 e, hlr⟩) ent ?_
      rintro ⟨l2, B2, t2, td, tv⟩ ⟨w2, hl2, hk2, hl3⟩
      try dsimp only [List.cons_append, List.nil_append, SwS.l, SwS.lf]
      rcases td with _ | ⟨z, zs⟩
      · skip
        refine r_seq ?_
        refine r_seq ?_
        refine r_ord [25] _ [(0, 1), (1, 1), (2, 1), (3, 0), (4, 0), (5, 1), (6, 1), (7, 1), (8, 1), (9, 1), (10, 0), (11, 1), (12, 1), (13, 1), (14, 0), (15, 0), (16, 0), (17, 0), (18, 1), (19, 1), (20, 1), (21, 0), (22, 0), (23, 0), (24, 0), (25, 2), (26, 1)] fc_mixed (by kernel_rfl) (fun _ h => h) ?_
        refine o_fr rfl (po_move rfl) rfl rfl rfl ?_
        refine o_fr rfl (po_nil rfl) rfl rfl rfl ?_
        refine o_fr rfl (po_faddr rfl (by exact fc_field_119_2_4)) rfl rfl rfl ?_
        refine o_rd rfl (po_load rfl (by exact fc_flat_32) (by rfl)) (by first | exact fun _ h => h | exact ent) rfl rfl rfl ?_
        refine o_rd rfl (po_len rfl (by exact fc_slice_32_45_3)) (by first | exact fun _ h => h | exact ent) rfl rfl rfl ?_
        refine o_fr rfl (po_gt rfl rfl) rfl rfl rfl ?_
        refine o_fr rfl (po_bf (po_move rfl) (decide_eq_false (by simp))) rfl rfl rfl ?_
        refine o_no rfl rfl rfl rfl ?_
        refine o_no rfl rfl rfl rfl ?_
        refine o_no rfl rfl rfl rfl ?_
        refine o_nor rfl (by first | exact fun _ h => h | exact ent) rfl rfl rfl ?_
        refine o_no rfl rfl rfl rfl ?_
        refine o_no rfl rfl rfl rfl ?_
        refine o_no rfl rfl rfl rfl ?_
        refine o_nor rfl (by first | exact fun _ h => h | exact ent) rfl rfl rfl ?_
        refine o_nor rfl (by first | exact fun _ h => h | exact ent) rfl rfl rfl ?_
        refine o_nor rfl (by first | exact fun _ h => h | exact ent) rfl rfl rfl ?_
        refine o_nor rfl (by first | exact fun _ h => h | exact ent) rfl rfl rfl ?_
        refine o_no rfl rfl rfl rfl ?_
        refine o_no rfl rfl rfl rfl ?_
        refine o_no rfl rfl rfl rfl ?_
        refine o_nor rfl (by first | exact fun _ h => h | exact ent) rfl rfl rfl ?_
        refine o_nor rfl (by first | exact fun _ h => h | exact ent) rfl rfl rfl ?_
        refine o_nor rfl (by first | exact fun _ h => h | exact ent) rfl rfl rfl ?_
        refine o_nor rfl (by first | exact fun _ h => h | exact ent) rfl rfl rfl ?_
        refine o_st rfl (st_no rfl rfl rfl ?_)
        refine ⟨fun h => late_no h (by kernel_rfl), ?_⟩
        refine o_fr rfl (po_pick_f rfl rfl) rfl rfl rfl ?_
        refine o_nil ?_
        refine at_then_wp ?_
        refine r_cond_f rfl rfl ?_
        refine r_exit ?_
        refine at_then_exit ?_
        refine at_then_exit ?_
        refine at_block_here ?_
        refine at_end0 rfl ⟨_, ⟨a1, l2, B2, t2, [], tv, rfl, w2, hl2, .inl rfl, rfl⟩, ?_⟩
        try dsimp only [List.cons_append, List.nil_append, SwS.l, SwS.lf]
        exact ent
      · skip
        have hzl : 0 < (z :: zs).length := by simp
        have hz0 := w2.td.1 z (by simp)
        have hz1 := hc.sdo z hz0.1
        have ha2 := w2.a0
        have ht2 := w2.tt
        have hr2 := w2.ring
        have hw2 := wt_cnt hr2
        obtain ⟨x, hx⟩ : ∃ x, B2[(z.key % 256).toNat]? = some x := ⟨_, List.getElem?_eq_getElem (by rw [hr2.len]; omega)⟩
        have hxb := hr2.bk x (List.mem_of_getElem? hx)
        refine r_seq ?_
        refine r_seq ?_
        refine r_ord [25] _ [(0, 1), (1, 1), (2, 1), (3, 0), (4, 0), (5, 1), (6, 1), (7, 1), (8, 1), (9, 1), (10, 0), (11, 1), (12, 1), (13, 1), (14, 0), (15, 0), (16, 0), (17, 0), (18, 1), (19, 1), (20, 1), (21, 0), (22, 0), (23, 0), (24, 0), (25, 2), (26, 1)] fc_mixed (by kernel_rfl) (fun _ h => h) ?_
        refine o_fr rfl (po_move rfl) rfl rfl rfl ?_
        refine o_fr rfl (po_nil rfl) rfl rfl rfl ?_
        refine o_fr rfl (po_faddr rfl (by exact fc_field_119_2_4)) rfl rfl rfl ?_
        refine o_rd rfl (po_load rfl (by exact fc_flat_32) (by rfl)) (by first | exact fun _ h => h | exact ent) rfl rfl rfl ?_
        refine o_rd rfl (po_len rfl (by exact fc_slice_32_45_3)) (by first | exact fun _ h => h | exact ent) rfl rfl rfl ?_
        refine o_fr rfl (po_gt rfl rfl) rfl rfl rfl ?_
        refine o_fr rfl (po_bt (po_move rfl) (decide_eq_true (by simp))) rfl rfl rfl ?_
        refine o_fr rfl (po_move rfl) rfl rfl rfl ?_
        refine o_fr rfl (po_nil rfl) rfl rfl rfl ?_
        refine o_fr rfl (po_faddr rfl (by exact fc_field_119_1_3)) rfl rfl rfl ?_
        refine o_rd rfl (po_load rfl (by exact fc_flat_115) (by rfl)) (by first | exact fun _ h => h | exact ent) rfl rfl rfl ?_
        refine o_fr rfl (po_move rfl) rfl rfl rfl ?_
        refine o_fr rfl (po_nil rfl) rfl rfl rfl ?_
        refine o_fr rfl (po_faddr rfl (by exact fc_field_119_2_4)) rfl rfl rfl ?_
        refine o_rd rfl (po_load rfl (by exact fc_flat_32) (by rfl)) (by first | exact fun _ h => h | exact ent) rfl rfl rfl ?_
        refine o_rd rfl (po_iaddr rfl rfl (by exact fc_slice_32_45_3) (by first | omega | (simp only [List.length_nil, List.length_cons, List.length_append, List.length_replicate, List.length_set, List.length_map, List.length_take, List.length_drop]; omega)) (by first | omega | (simp only [List.length_nil, List.length_cons, List.length_append, List.length_replicate, List.length_set, List.length_map, List.length_take, List.length_drop]; omega))) (by first | exact fun _ h => h | exact ent) rfl rfl rfl ?_
        refine o_rd rfl (po_faddr_sl rfl (by omega) (by exact fc_field_45_2_2)) (by first | exact fun _ h => h | exact ent) rfl rfl rfl ?_
        refine o_rd rfl (po_load_sl rfl (List.getElem?_eq_getElem (by first | omega | (simp only [List.length_nil, List.length_cons, List.length_append, List.length_replicate, List.length_set, List.length_map, List.length_take, List.length_drop]; omega))) (by exact fc_flat_3) (by rfl)) (by first | exact fun _ h => h | exact ent) rfl rfl rfl ?_
        refine o_fr rfl (po_move rfl) rfl rfl rfl ?_
        refine o_fr rfl (po_nil rfl) rfl rfl rfl ?_
        refine o_fr rfl (po_faddr rfl (by exact fc_field_119_2_4)) rfl rfl rfl ?_
        refine o_rd rfl (po_load rfl (by exact fc_flat_32) (by rfl)) (by first | exact fun _ h => h | exact ent) rfl rfl rfl ?_
        refine o_rd rfl (po_iaddr rfl rfl (by exact fc_slice_32_45_3) (by first | omega | (simp only [List.length_nil, List.length_cons, List.length_append, List.length_replicate, List.length_set, List.length_map, List.length_take, List.length_drop]; omega)) (by first | omega | (simp only [List.length_nil, List.length_cons, List.length_append, List.length_replicate, List.length_set, List.length_map, List.length_take, List.length_drop]; omega))) (by first | exact fun _ h => h | exact ent) rfl rfl rfl ?_
        refine o_rd rfl (po_faddr_sl rfl (by omega) (by exact fc_field_45_0_0)) (by first | exact fun _ h => h | exact ent) rfl rfl rfl ?_
        refine o_rd rfl (po_load_sl rfl (List.getElem?_eq_getElem (by first | omega | (simp only [List.length_nil, List.length_cons, List.length_append, List.length_replicate, List.length_set, List.length_map, List.length_take, List.length_drop]; omega))) (by exact fc_flat_3) (by rfl)) (by first | exact fun _ h => h | exact ent) rfl rfl rfl ?_
        refine o_st rfl (st_call (co_fn rfl rfl) (ring_Put s.rb a1 l2 B2 z.key z.cell x ha2.1 (by omega) hr2.len hx (by omega) (by omega)) (by infer_instance) rfl rfl rfl ?_)
        rintro v53 _ (⟨g1, g2, rfl, y, hy1, hy2, rfl⟩ | ⟨g1, rfl, rfl⟩)
        · try dsimp only [List.cons_append, List.nil_append, SwS.l, SwS.lf]
          refine ⟨fun h => late_no h (by kernel_rfl), ?_⟩
          refine o_fr rfl (po_pick_t rfl rfl) rfl rfl rfl ?_
          refine o_nil ?_
          refine at_then_wp ?_
          refine r_cond_t rfl (rfl) ?_
          refine r_skip ?_
          refine at_then_wp ?_
          refine r_block ?_
          refine r_reg ?_
          refine ws (st_po (po_move rfl) rfl rfl rfl ?_)
          refine ws (st_po (po_move rfl) rfl rfl rfl ?_)
          refine ws (st_po (po_nil rfl) rfl rfl rfl ?_)
          refine ws (st_po (po_faddr rfl (by exact fc_field_119_2_4)) rfl rfl rfl ?_)
          refine ws (st_po (po_load rfl (by exact fc_flat_32) (by rfl)) rfl rfl rfl ?_)
          refine ws (st_po (po_slice_l rfl rfl (by exact fc_slice_32_45_3) (by first | omega | (simp only [List.length_nil, List.length_cons, List.length_append, List.length_replicate, List.length_set, List.length_map, List.length_take, List.length_drop]; omega)) (by first | omega | (simp only [List.length_nil, List.length_cons, List.length_append, List.length_replicate, List.length_set, List.length_map, List.length_take, List.length_drop]; omega))) rfl rfl rfl ?_)
          refine ws (st_po (po_nil rfl) rfl rfl rfl ?_)
          refine ws (st_po (po_faddr rfl (by exact fc_field_119_2_4)) rfl rfl rfl ?_)
          refine ws (st_so (so_store1 rfl rfl (by exact fc_flat_32) rfl) rfl rfl ?_)
          refine s_nil ?_
          refine at_block_normal ?_
          refine at_ent (ent_sub (E := eS) (s := tv) (xs := z :: zs) (1 : Int).toNat (z :: zs).length (by simp) (by simp)) ?_
          simp only [List.take_length, show (1 : Int).toNat = 1 from rfl, List.drop_succ_cons, List.drop_zero]
          exact at_again ((l2 + 1, _, t2 + 1, zs, subv eS.k 1 (z :: zs).length tv)) (trivial) (And.intro rfl (trivial)) (⟨w2.feed hc ⟨g1, g2⟩ hx hy1 hy2, by simp at hl2 ⊢; omega, fun e => by omega, by omega⟩) (by simp) ent
        · try dsimp only [List.cons_append, List.nil_append, SwS.l, SwS.lf]
          refine ⟨fun h => late_no h (by kernel_rfl), ?_⟩
          refine o_fr rfl (po_pick_t rfl rfl) rfl rfl rfl ?_
          refine o_nil ?_
          refine at_then_wp ?_
          refine r_cond_f rfl (rfl) ?_
          refine r_exit ?_
          refine at_then_exit ?_
          refine at_then_exit ?_
          refine at_block_here ?_
          refine at_end0 rfl ⟨_, ⟨a1, l2, B2, t2, z :: zs, tv, rfl, w2, hl2, .inr ⟨by by_cases e : 0 < l2; omega; exact absurd ⟨hz0.2, by have := hk2 (by omega) z zs rfl; omega⟩ g1, fun z' hz' => by have hp := List.pairwise_cons.1 w2.td.2; rcases List.mem_cons.1 hz' with e | e; (subst e; omega); have := hp.1 z' e; omega⟩, rfl⟩, ?_⟩
          try dsimp only [List.cons_append, List.nil_append, SwS.l, SwS.lf]
          exact ent

theorem sweep_run {sd : List Seed} {T a l : Int} {B : List Bkt} {todo : List Seed} {d : List Int} {tot : Int} (s : SwS) (hc : SwC s.w s.h s.C sd) (sw : Sw s.w s.h s.C sd T a l B todo d tot 0 ex0) (hT : T ≤ 2^32) :
    Spec PP 85 #[s.p] (s.l a l B todo d)
      (fun v M => ∃ a' B' d' tot' tv', v = .tuple #[] ∧ Sw s.w s.h s.C sd T a' 0 B' [] d' tot' 0 ex0 ∧ M = ({ s with tv := tv' } : SwS).l a' 0 B' [] d') := by
  have hI : INF = 1099511627776 := rfl
  refine spec_of (Go.Proofs.Tryz.func85) rfl rfl rfl (by exact fc_enters_85) ?_
  intro g F
  try dsimp only [List.cons_append, List.nil_append, SwS.l, SwS.lf]
  refine r_seq ?_
  refine r_reg ?_
  refine ws (st_po (po_move rfl) rfl rfl rfl ?_)
  refine ws (st_call (co_fn rfl rfl) (sweep_fill s hc sw hT) (by infer_instance) rfl rfl rfl ?_)
  rintro v6 _ ⟨a0, l0, B0, tot0, todo0, tv0, rfl, w0, hl0, hz0, rfl⟩
  try dsimp only [List.cons_append, List.nil_append, SwS.l, SwS.lf]
  refine s_nil ?_
  refine at_then_wp ?_
  refine r_block ?_
  refine r_loop (S := Int × Int × List Bkt × Int × List Seed × Value × List Int) (fun ⟨a1, l1, B1, t1, td, tv, d1⟩ => []) [(0, _)] (fun ⟨a1, l1, B1, t1, td, tv, d1⟩ => ({ s with tv := tv } : SwS).lf F a1 l1 B1 td d1) (fun ⟨a1, l1, B1, t1, td, tv, d1⟩ => Sw s.w s.h s.C sd T a1 l1 B1 td d1 t1 0 ex0 ∧ (td = [] ∨ (1 ≤ l1 ∧ ∀ z ∈ td, a1 + 256 ≤ z.key))) (fun ⟨a1, l1, B1, t1, td, tv, d1⟩ => (l1 + td.length + 4 * uns d1).toNat) ((a0, l0, B0, tot0, todo0, tv0, d)) (And.intro rfl (trivial)) (trivial) (⟨w0, hz0⟩) ent ?_
  rintro ⟨a1, l1, B1, t1, td, tv, d1⟩ ⟨w1, hz1⟩
  try dsimp only [List.cons_append, List.nil_append, SwS.l, SwS.lf]
  have hr1 := w1.ring
  have hlr : 0 ≤ l1 := by rw [hr1.cnt]; omega
  have ha1 := w1.a0
  have ht1 := w1.tt
  have hw1 := wt_cnt hr1
  have hkb := kb_le (d := d1) (by rw [w1.dl]; exact hc.small)
  refine r_seq ?_
  refine r_seq ?_
  refine r_reg ?_
  refine ws (st_po (po_move rfl) rfl rfl rfl ?_)
  refine ws (st_po (po_nil rfl) rfl rfl rfl ?_)
  refine ws (st_po (po_faddr rfl (by exact fc_field_119_1_3)) rfl rfl rfl ?_)
  refine ws (st_po (po_load rfl (by exact fc_flat_115) (by rfl)) rfl rfl rfl ?_)
  refine ws (st_call (co_fn rfl rfl) (ring_Len s.rb a1 l1 B1) (by infer_instance) rfl rfl rfl ?_)
  rintro v11 _ ⟨rfl, rfl⟩
  try dsimp only [List.cons_append, List.nil_append, SwS.l, SwS.lf]
  refine ws (st_po (po_gt rfl rfl) rfl rfl rfl ?_)
  refine s_nil ?_
  refine at_then_wp ?_
  first | refine r_cond_not rfl ?_ ?_ | refine r_cond_dec rfl ?_ ?_ | refine r_cond rfl ?_ ?_
  · intro hl1
    obtain ⟨k, hk, hf⟩ := first_ex hr1 hl1 ha1.1
    have hbk : ∀ x ∈ B1, x.xs.length ≤ 2^40 ∧ 0 ≤ x.gone ∧ x.gone ≤ x.xs.length := fun x hx => by have := hr1.bk x hx; omega
    refine r_skip ?_
    refine at_then_wp ?_
    refine r_seq ?_
    refine r_block ?_
    refine r_seq ?_
    refine r_reg ?_
    refine ws (st_po (po_move rfl) rfl rfl rfl ?_)
    refine ws (st_po (po_nil rfl) rfl rfl rfl ?_)
    refine ws (st_po (po_faddr rfl (by exact fc_field_119_1_3)) rfl rfl rfl ?_)
    refine ws (st_po (po_load rfl (by exact fc_flat_115) (by rfl)) rfl rfl rfl ?_)
    refine ws (st_call (co_fn rfl rfl) (ring_Pop s.rb a1 l1 B1 k ha1.1 (by omega) hr1.len hbk (by omega) hf) (by infer_instance) rfl rfl rfl ?_)
    rintro v20 _ ⟨x, y, it, rfl, hx, hq, hyl, hyg, rfl⟩
    try dsimp only [List.cons_append, List.nil_append, SwS.l, SwS.lf]
    have hp := (pop_ok hr1 hf hk hx hq hyl hyg).2.2.2
    have hw := w1.wB k it hp
    have hdl := w1.dl
    have hit0 := hw.1.1
    have hit1 := hw.1.2.1
    have hz2 : ∀ z ∈ td, a1 + 256 ≤ z.key := fun z hz => hz1.elim (fun e => by rw [e] at hz; cases hz) (fun e => e.2 z hz)
    have hdg : gAt d1 it = d1[it.toNat]'(by omega) := gAt_get (by omega)
    refine ws (st_po (po_move rfl) rfl rfl rfl ?_)
    refine ws (st_po (po_extract rfl rfl) rfl rfl rfl ?_)
    refine ws (st_po (po_extract rfl rfl) rfl rfl rfl ?_)
    refine ws (st_po (po_extract rfl rfl) rfl rfl rfl ?_)
    refine ws (st_po (po_assign rfl) rfl rfl rfl ?_)
    refine ws (st_po (po_assign rfl) rfl rfl rfl ?_)
    refine ws (st_po (po_assign rfl) rfl rfl rfl ?_)
    refine s_nil ?_
    refine at_then_wp ?_
    refine r_seq ?_
    refine r_reg ?_
    refine ws (st_po (po_move rfl) rfl rfl rfl ?_)
    refine ws (st_po (po_nil rfl) rfl rfl rfl ?_)
    refine ws (st_po (po_faddr rfl (by exact fc_field_119_3_5)) rfl rfl rfl ?_)
    refine ws (st_po (po_load rfl (by exact fc_flat_35) (by rfl)) rfl rfl rfl ?_)
    refine ws (st_po (po_move rfl) rfl rfl rfl ?_)
    refine ws (st_po (po_iaddr rfl rfl (by exact fc_slice_35_3_1) (by first | omega | (simp only [List.length_nil, List.length_cons, List.length_append, List.length_replicate, List.length_set, List.length_map, List.length_take, List.length_drop]; omega)) (by first | omega | (simp only [List.length_nil, List.length_cons, List.length_append, List.length_replicate, List.length_set, List.length_map, List.length_take, List.length_drop]; omega))) rfl rfl rfl ?_)
    refine ws (st_po (po_load_sl rfl (List.getElem?_eq_getElem (by first | omega | (simp only [List.length_nil, List.length_cons, List.length_append, List.length_replicate, List.length_set, List.length_map, List.length_take, List.length_drop]; omega))) (by exact fc_flat_3) (by rfl)) rfl rfl rfl ?_)
    refine ws (st_po (po_eq rfl rfl) rfl rfl rfl ?_)
    refine s_nil ?_
    refine at_then_wp ?_
    first | refine r_cond_not rfl ?_ ?_ | refine r_cond_dec rfl ?_ ?_ | refine r_cond rfl ?_ ?_
    · intro hd
      have w2 := w1.popNew hc hf hk hx hq hyl hyg hz2 (by omega)
      have hun := uns_set d1 it.toNat k (by rw [List.getElem?_eq_getElem (by omega), ← hdg]; congr 1; omega) (by have := hw.2.2; omega)
      refine r_seq ?_
      refine r_reg ?_
      refine ws (st_po (po_move rfl) rfl rfl rfl ?_)
      refine ws (st_po (po_nil rfl) rfl rfl rfl ?_)
      refine ws (st_po (po_faddr rfl (by exact fc_field_119_3_5)) rfl rfl rfl ?_)
      refine ws (st_po (po_load rfl (by exact fc_flat_35) (by rfl)) rfl rfl rfl ?_)
      refine ws (st_po (po_move rfl) rfl rfl rfl ?_)
      refine ws (st_po (po_move rfl) rfl rfl rfl ?_)
      refine ws (st_po (po_iaddr rfl rfl (by exact fc_slice_35_3_1) (by first | omega | (simp only [List.length_nil, List.length_cons, List.length_append, List.length_replicate, List.length_set, List.length_map, List.length_take, List.length_drop]; omega)) (by first | omega | (simp only [List.length_nil, List.length_cons, List.length_append, List.length_replicate, List.length_set, List.length_map, List.length_take, List.length_drop]; omega))) rfl rfl rfl ?_)
      refine ws (st_so (so_store_sl rfl rfl (List.getElem?_eq_getElem (by omega)) (by exact fc_flat_3) (by decide) (by rfl) (by rfl)) rfl rfl ?_)
      refine s_nil ?_
      refine at_then_wp ?_
      refine r_reg ?_
      refine ws (st_po (po_move rfl) rfl rfl rfl ?_)
      refine ws (st_po (po_move rfl) rfl rfl rfl ?_)
      refine ws (st_call (co_fn rfl rfl) (sweep_around { s with tv := tv } hc w2 hT hw.1 (by rw [gAt_set hit0 (by omega) hit0, if_pos rfl])) (by infer_instance) rfl rfl rfl ?_)
      rintro v41 _ ⟨l3, B3, t3, rfl, w3, hl3, rfl⟩
      try dsimp only [List.cons_append, List.nil_append, SwS.l, SwS.lf]
      refine s_nil ?_
      refine at_block_normal ?_
      refine at_then_wp ?_
      refine r_reg ?_
      refine ws (st_po (po_move rfl) rfl rfl rfl ?_)
      refine ws (st_call (co_fn rfl rfl) (sweep_fill { s with tv := tv } hc w3 hT) (by infer_instance) rfl rfl rfl ?_)
      rintro v14 _ ⟨a4, l4, B4, t4, td4, tv4, rfl, w4, hl4, hz4, rfl⟩
      try dsimp only [List.cons_append, List.nil_append, SwS.l, SwS.lf]
      refine s_nil ?_
      exact at_again ((a4, l4, B4, t4, td4, tv4, d1.set it.toNat k)) (trivial) (And.intro rfl (trivial)) (⟨w4, hz4⟩) (by dsimp only; omega) ent
    · intro hd
      have w2 := w1.popOld hf hk hx hq hyl hyg hz2 (by omega)
      refine r_skip ?_
      refine at_block_normal ?_
      refine at_then_wp ?_
      refine r_reg ?_
      refine ws (st_po (po_move rfl) rfl rfl rfl ?_)
      refine ws (st_call (co_fn rfl rfl) (sweep_fill { s with tv := tv } hc w2 hT) (by infer_instance) rfl rfl rfl ?_)
      rintro v14 _ ⟨a4, l4, B4, t4, td4, tv4, rfl, w4, hl4, hz4, rfl⟩
      try dsimp only [List.cons_append, List.nil_append, SwS.l, SwS.lf]
      refine s_nil ?_
      exact at_again ((a4, l4, B4, t4, td4, tv4, d1)) (trivial) (And.intro rfl (trivial)) (⟨w4, hz4⟩) (by dsimp only; omega) ent
  · intro hl1
    refine r_exit ?_
    refine at_then_exit ?_
    refine at_then_exit ?_
    refine at_block_here ?_
    have hle : l1 = 0 := by omega
    have htd : td = [] := hz1.elim id (fun e => by omega)
    subst hle htd
    refine at_end0 rfl ⟨_, ⟨a1, B1, d1, t1, tv, rfl, w1, rfl⟩, ?_⟩
    try dsimp only [List.cons_append, List.nil_append, SwS.l, SwS.lf]
    exact ent
end Hd
end
section
namespace Hd
/-! ## the order of seeds -/
def ltS (a b : Seed) : Prop := ordI a b < 0
def leS (a b : Seed) : Prop := ¬ ltS b a
theorem ltS_iff (a b : Seed) : ltS a b ↔ a.key < b.key ∨ (a.key = b.key ∧ (a.cell < b.cell ∨ (a.cell = b.cell ∧ a.side < b.side))) := by
  unfold ltS ordI
  simp only [orI, cmpI]
  by_cases h1 : a.key < b.key
  · simp [h1]
  · by_cases h2 : b.key < a.key
    · simp [h1, h2]; omega
    · by_cases h3 : a.cell < b.cell
      · simp [h1, h2, h3]; omega
      · by_cases h4 : b.cell < a.cell
        · simp [h1, h2, h3, h4]; omega
        · by_cases h5 : a.side < b.side
          · simp [h1, h2, h3, h4, h5]; omega
          · by_cases h6 : b.side < a.side
            · simp [h1, h2, h3, h4, h5, h6]
            · simp [h1, h2, h3, h4, h5, h6]
instance (a b : Seed) : Decidable (ltS a b) := by unfold ltS; infer_instance
theorem leS_refl (a : Seed) : leS a a := by unfold leS; rw [ltS_iff]; omega
theorem leS_trans {a b c : Seed} (h1 : leS a b) (h2 : leS b c) : leS a c := by unfold leS at *; rw [ltS_iff] at *; omega
theorem leS_of {a b : Seed} (h : ltS a b) : leS a b := by unfold leS; rw [ltS_iff] at *; omega
theorem ltS_trans {a b c : Seed} (h1 : ltS a b) (h2 : ltS b c) : ltS a c := by rw [ltS_iff] at *; omega
theorem ltS_le {a b c : Seed} (h1 : ltS a b) (h2 : leS b c) : ltS a c := by unfold leS at h2; rw [ltS_iff] at *; omega
theorem leS_lt {a b c : Seed} (h1 : leS a b) (h2 : ltS b c) : ltS a c := by unfold leS at h1; rw [ltS_iff] at *; omega
theorem leS_anti {a b : Seed} (h1 : leS a b) (h2 : leS b a) : a = b := by
  unfold leS at *
  rw [ltS_iff] at *
  cases a; cases b; simp at *; omega
/-! ## lists -/
def sg (l : List Seed) (i : Nat) : Seed := l.getD i ⟨0, 0, 0⟩
theorem sg_get {l : List Seed} {i : Nat} (h : i < l.length) : sg l i = l[i] := by simp [sg, h]
def sws (l : List Seed) (i p : Nat) : List Seed := (l.set i (sg l p)).set p (sg l i)
theorem sws_len (l : List Seed) (i p : Nat) : (sws l i p).length = l.length := by simp [sws]
theorem sws_get {l : List Seed} {i p j : Nat} (hi : i < l.length) (hp : p < l.length) : sg (sws l i p) j = if j = p then sg l i else if j = i then sg l p else sg l j := by
  unfold sws sg
  rw [List.getD_eq_getElem?_getD, List.getElem?_set, List.getElem?_set]
  by_cases e : p = j
  · subst e; simp [hp]
  · have e' : ¬ j = p := fun x => e x.symm
    by_cases e2 : i = j
    · subst e2; simp [e, e', hi]
    · have e2' : ¬ j = i := fun x => e2 x.symm
      simp [e, e', e2, e2']
theorem sws_perm {l : List Seed} {i p : Nat} (hi : i < l.length) (hp : p < l.length) : (sws l i p).Perm l := by
  unfold sws
  rw [sg_get hi, sg_get hp]
  exact List.set_set_perm hi hp
/-- only what lies from a to b is put in another order -/
structure Seg (a b : Nat) (l l' : List Seed) : Prop where
  len : l'.length = l.length
  out : ∀ i, i < a ∨ b ≤ i → sg l' i = sg l i
  perm : l'.Perm l
theorem Seg.refl (a b : Nat) (l : List Seed) : Seg a b l l := ⟨rfl, fun _ _ => rfl, .rfl⟩
theorem Seg.trans {a b : Nat} {l m n : List Seed} (h : Seg a b l m) (k : Seg a b m n) : Seg a b l n := ⟨k.len.trans h.len, fun i hi => (k.out i hi).trans (h.out i hi), k.perm.trans h.perm⟩
theorem Seg.mono {a b a' b' : Nat} {l m : List Seed} (h : Seg a b l m) (h1 : a' ≤ a) (h2 : b ≤ b') : Seg a' b' l m := ⟨h.len, fun i hi => h.out i (by omega), h.perm⟩
theorem Seg.swap {a b i p : Nat} {l : List Seed} (hl : b ≤ l.length) (hi : a ≤ i ∧ i < b) (hp : a ≤ p ∧ p < b) : Seg a b l (sws l i p) :=
  ⟨sws_len l i p, fun j hj => by rw [sws_get (by omega) (by omega), if_neg (by omega), if_neg (by omega)], sws_perm (by omega) (by omega)⟩
/-- in order from a to b -/
def Srt (a b : Nat) (l : List Seed) : Prop := ∀ p q, a ≤ p → p < q → q < b → leS (sg l p) (sg l q)
/-- .. but for the one at j, which may come ahead of those before it -/
def SrtBut (a b j : Nat) (l : List Seed) : Prop := ∀ p q, a ≤ p → p < q → q < b → q ≠ j → leS (sg l p) (sg l q)
theorem srt_ins {a b j : Nat} {l : List Seed} (hl : b ≤ l.length) (h : SrtBut a b j l) (hj : a < j ∧ j < b) (hlt : ltS (sg l j) (sg l (j - 1))) : SrtBut a b (j - 1) (sws l j (j - 1)) := by
  intro p q h1 h2 h3 h4
  rw [sws_get (by omega) (by omega), sws_get (by omega) (by omega), if_neg h4]
  by_cases e : q = j
  · rw [if_pos e]
    by_cases e2 : p = j - 1
    · rw [if_pos e2]; exact leS_of hlt
    · rw [if_neg e2, if_neg (by omega)]; exact h p (j - 1) h1 (by omega) (by omega) (by omega)
  · rw [if_neg e]
    by_cases e2 : p = j - 1
    · rw [if_pos e2]; exact h j q (by omega) (by omega) h3 e
    · rw [if_neg e2]
      by_cases e3 : p = j
      · rw [if_pos e3]; exact h (j - 1) q (by omega) (by omega) h3 e
      · rw [if_neg e3]; exact h p q h1 h2 h3 e
theorem srt_stop {a b j : Nat} {l : List Seed} (h : SrtBut a b j l) (hj : j ≤ a ∨ leS (sg l (j - 1)) (sg l j)) : Srt a b l := by
  intro p q h1 h2 h3
  by_cases e : q = j
  · subst e
    rcases hj with hj | hj
    · omega
    · by_cases e2 : p = q - 1
      · rw [e2]; exact hj
      · exact leS_trans (h p (q - 1) h1 (by omega) (by omega) (by omega)) hj
  · exact h p q h1 h2 h3 e
end Hd
end
section
-- the sort, laid at this program (lay-plain.mjs)
namespace Go.Proofs
open Go.Shelf
def Tryz.sortS_ren : Go.Shelf.Ren := ⟨fun | 6 => 76 | 15 => 102 | 14 => 101 | 28 => 132 | 29 => 133 | 20 => 124 | 21 => 125 | 22 => 126 | 23 => 127 | 24 => 128 | 25 => 129 | 26 => 130 | 27 => 131 | 46 => 150 | 47 => 151 | 48 => 152 | 49 => 153 | 50 => 154 | 57 => 158 | n => n, fun | 22 => 32 | 24 => 45 | 25 => 110 | 3 => 3 | 39 => 139 | 0 => 0 | 53 => 172 | 55 => 96 | 4 => 4 | 46 => 166 | 45 => 165 | 50 => 132 | 5 => 5 | 9 => 9 | 66 => 184 | 70 => 188 | 76 => 193 | 77 => 66 | n => n, fun | n => n⟩
theorem Tryz.sortS : Go.Proofs.SlLaysF0.n6 Tryz.prog Tryz.sortS_ren := {
  mixed := by kernel_rfl
  f6 := ⟨Tryz.f76.name, by decide, Tryz.func76.trans (congrArg some (by kernel_rfl))⟩
  f14 := ⟨Tryz.f101.name, by decide, Tryz.func101.trans (congrArg some (by kernel_rfl))⟩
  f15 := Tryz.func102.trans (congrArg some (by kernel_rfl))
  f20 := ⟨Tryz.f124.name, by decide, Tryz.func124.trans (congrArg some (by kernel_rfl))⟩
  f21 := ⟨Tryz.f125.name, by decide, Tryz.func125.trans (congrArg some (by kernel_rfl))⟩
  f22 := ⟨Tryz.f126.name, by decide, Tryz.func126.trans (congrArg some (by kernel_rfl))⟩
  f23 := ⟨Tryz.f127.name, by decide, Tryz.func127.trans (congrArg some (by kernel_rfl))⟩
  f24 := ⟨Tryz.f128.name, by decide, Tryz.func128.trans (congrArg some (by kernel_rfl))⟩
  f25 := ⟨Tryz.f129.name, by decide, Tryz.func129.trans (congrArg some (by kernel_rfl))⟩
  f26 := ⟨Tryz.f130.name, by decide, Tryz.func130.trans (congrArg some (by kernel_rfl))⟩
  f27 := ⟨Tryz.f131.name, by decide, Tryz.func131.trans (congrArg some (by kernel_rfl))⟩
  f28 := Tryz.func132.trans (congrArg some (by kernel_rfl))
  f29 := Tryz.func133.trans (congrArg some (by kernel_rfl))
  f46 := ⟨Tryz.f150.name, by decide, Tryz.func150.trans (congrArg some (by kernel_rfl))⟩
  f47 := Tryz.func151.trans (congrArg some (by kernel_rfl))
  f48 := Tryz.func152.trans (congrArg some (by kernel_rfl))
  f49 := ⟨Tryz.f153.name, by decide, Tryz.func153.trans (congrArg some (by kernel_rfl))⟩
  f50 := ⟨Tryz.f154.name, by decide, Tryz.func154.trans (congrArg some (by kernel_rfl))⟩
  f57 := ⟨Tryz.f158.name, by decide, Tryz.func158.trans (congrArg some (by kernel_rfl))⟩
  t0 := Tryz.underlying0
  a0 := Tryz.isAgg0
  z0 := Tryz.sizeOf0
  v0 := Tryz.zeroValue0
  t3 := Tryz.underlying3
  a3 := Tryz.isAgg3
  z3 := Tryz.sizeOf3
  v3 := Tryz.zeroValue3
  t4 := Tryz.underlying4
  a4 := Tryz.isAgg4
  z4 := Tryz.sizeOf4
  v4 := Tryz.zeroValue4
  t5 := Tryz.underlying5
  a5 := Tryz.isAgg5
  z5 := Tryz.sizeOf5
  v5 := Tryz.zeroValue5
  t9 := Tryz.underlying9
  a9 := Tryz.isAgg9
  z9 := Tryz.sizeOf9
  v9 := Tryz.zeroValue9
  t22 := Tryz.underlying32
  a22 := Tryz.isAgg32
  z22 := Tryz.sizeOf32
  v22 := Tryz.zeroValue32
  t25 := Tryz.underlying110
  a25 := Tryz.isAgg110
  z25 := Tryz.sizeOf110
  v25 := Tryz.zeroValue110
  t39 := Tryz.underlying139
  a39 := Tryz.isAgg139
  z39 := Tryz.sizeOf139
  v39 := Tryz.zeroValue139
  t45 := Tryz.underlying165
  a45 := Tryz.isAgg165
  z45 := Tryz.sizeOf165
  v45 := Tryz.zeroValue165
  t46 := Tryz.underlying166
  a46 := Tryz.isAgg166
  z46 := Tryz.sizeOf166
  v46 := Tryz.zeroValue166
  t50 := Tryz.underlying132
  a50 := Tryz.isAgg132
  z50 := Tryz.sizeOf132
  v50 := Tryz.zeroValue132
  t53 := Tryz.underlying172
  a53 := Tryz.isAgg172
  z53 := Tryz.sizeOf172
  v53 := Tryz.zeroValue172
  t55 := Tryz.underlying96
  a55 := Tryz.isAgg96
  z55 := Tryz.sizeOf96
  v55 := Tryz.zeroValue96
  t66 := Tryz.underlying184
  a66 := Tryz.isAgg184
  z66 := Tryz.sizeOf184
  v66 := Tryz.zeroValue184
  t70 := Tryz.underlying188
  a70 := Tryz.isAgg188
  z70 := Tryz.sizeOf188
  v70 := Tryz.zeroValue188
  t76 := Tryz.underlying193
  a76 := Tryz.isAgg193
  z76 := Tryz.sizeOf193
  v76 := Tryz.zeroValue193
  t77 := Tryz.underlying66
  a77 := Tryz.isAgg66
  z77 := Tryz.sizeOf66
  v77 := Tryz.zeroValue66 }
end Go.Proofs
end
section
namespace Hd
set_option maxRecDepth 100000
open Go

/-! ## from a contract here to a world told whole, and back -/
theorem spec_grow {P : Program} {f : FuncId} {args : Array Value} {r : Value} (h : Spec P f args [] (fun v M => v = r ∧ M = [])) (w : World) :
    Calls P f args w fun e w' => e = .returned r ∧ ∃ q os', w' = Go.Sort.grow (w.drewN q) os' := by
  refine (h.calls ⟨w.os, w.tape, w.output, w.drawn⟩ (fun hh => ∀ b o, w.heap[b]? = some o → hh b = some o) w ⟨rfl, rfl, rfl, Nat.le_refl _, ?_⟩).mono ?_
  · exact ⟨frag w, fun _ => none, fun b => .inr ⟨rfl, rfl⟩, fun b o e => e, trivial⟩
  · rintro e w' ⟨v, M, rfl, ⟨rfl, rfl⟩, fw⟩
    obtain ⟨h1, h2, j, ha, -⟩ := fw.sat
    have hk : ∀ b o, w.heap[b]? = some o → w'.heap[b]? = some o := fun b o e => j.sub_left b o (ha b o e)
    have hs : w.heap.size ≤ w'.heap.size := by
      rcases Nat.lt_or_ge w'.heap.size w.heap.size with hlt | hge
      · have := hk w'.heap.size w.heap[w'.heap.size] (by simp [hlt])
        simp at this
      · exact hge
    refine ⟨rfl, w'.drawn - w.drawn, w'.heap.extract w.heap.size w'.heap.size, ?_⟩
    have hh : w'.heap = w.heap ++ w'.heap.extract w.heap.size w'.heap.size := by
      apply Array.ext_getElem?
      intro i
      rw [Array.getElem?_append]
      split
      · rename_i hi
        rw [hk i w.heap[i] (by simp [hi])]; simp [hi]
      · rename_i hi
        rw [Array.getElem?_extract]
        by_cases hlt : i < w'.heap.size
        · rw [if_pos (by omega), show w.heap.size + (i - w.heap.size) = i by omega]
        · rw [if_neg (by omega)]; simp; omega
    have hd : w.drawn + (w'.drawn - w.drawn) = w'.drawn := by have := fw.dr; simp only at this; omega
    have e1 := fw.os
    have e2 := fw.tape
    have e3 := fw.output
    simp only at e1 e2 e3
    cases w'
    simp only at hh hd e1 e2 e3
    simp only [Go.Sort.grow, World.drewN, hd, ← hh, e1, e2, e3]

theorem flatK_get {α : Type} [Inhabited α] (E : Enc α) (d : List α) (t : Nat) (ht : t < d.length * E.k) : (d.flatMap E.f)[t]? = some (Go.Sort.flatK E.f E.k d.toArray)[t]! := by
  have hk := E.pos
  have hd : t / E.k < d.length := Nat.div_lt_of_lt_mul (by rw [Nat.mul_comm]; exact ht)
  have hm := Nat.mod_lt t hk
  have ht2 : t = t / E.k * E.k + t % E.k := by rw [Nat.mul_comm]; exact (Nat.div_add_mod t E.k).symm
  rw [Go.Sort.get_flatK _ _ _ _ (by simpa using ht)]
  have e : d.toArray[t / E.k]! = d[t / E.k] := by simp [hd]
  rw [e]
  conv => lhs; rw [ht2]
  rw [flat_get E d _ _ d[t / E.k] (List.getElem?_eq_getElem hd) hm]
  have : t % E.k < (E.f d[t / E.k]).length := by rw [E.len]; exact hm
  simp [this]
theorem sl_holds {α : Type} [Inhabited α] {E : Enc α} {g : Gl} {b off : Nat} {pre post : List Value} {xs : List α} {R : List HP} {w : World} (hp : pre.length = off) (f : Fit g (Blk b E.T (pre ++ (xs.flatMap E.f ++ post)) :: R) w) :
    Go.Sort.HoldsK E.f E.k w b off xs.toArray ∧ b < w.heap.size := by
  have hb := sat_pt f.sat
  simp only [frag] at hb
  refine ⟨fun j hj => ?_, ?_⟩
  · have hj' : j < xs.length * E.k := by simpa using hj
    have := flatK_get E xs j hj'
    refine ⟨?_, by simp [World.frozen?, hb]⟩
    have e : (pre ++ (xs.flatMap E.f ++ post))[off + j]? = some (Go.Sort.flatK E.f E.k xs.toArray)[j]! := by
      rw [← hp, List.getElem?_append_right (by omega), Nat.add_sub_cancel_left, List.getElem?_append_left (by rw [flat_len]; exact hj'), this]
    exact f.cellL e
  · rcases Nat.lt_or_ge b w.heap.size with h | h
    · exact h
    · simp [h] at hb
theorem sorted_fit {α : Type} [Inhabited α] {E : Enc α} {g : Gl} {b off : Nat} {pre post : List Value} {xs : List α} {R : List HP} {w : World} (hp : pre.length = off) (f : Fit g (Blk b E.T (pre ++ (xs.flatMap E.f ++ post)) :: R) w) (n : Nat) (ys : List α) (hl : ys.length = xs.length) (os : Array Obj) :
    Fit g (Blk b E.T (pre ++ (ys.flatMap E.f ++ post)) :: R) (Go.Proofs.sortWorldK E.f E.k w b off n ys.toArray os) := by
  have hb := sat_pt f.sat
  simp only [frag] at hb
  have hsz : b < w.heap.size := (sl_holds hp f).2
  have hc : Go.Sort.putCells id off (Go.Sort.flatK E.f E.k ys.toArray) (pre ++ (xs.flatMap E.f ++ post)).toArray = (pre ++ (ys.flatMap E.f ++ post)).toArray := by
    apply Array.ext_getElem?
    intro i
    unfold Go.Sort.putCells
    rw [Array.getElem?_mapIdx]
    simp only [Go.Sort.size_flatK, List.getElem?_toArray, List.size_toArray, id]
    have hlx := flat_len E xs
    have hly := flat_len E ys
    rw [hl] at hly
    obtain ⟨m, hm⟩ : ∃ m, m = xs.length * E.k := ⟨_, rfl⟩
    rw [← hm] at hlx hly
    rw [hl, ← hm]
    by_cases h1 : i < pre.length
    · rw [List.getElem?_append_left h1, List.getElem?_append_left h1]
      have : ¬ (off ≤ i ∧ i < off + m) := by omega
      simp [this, h1]
    · have hi : pre.length ≤ i := by omega
      rw [List.getElem?_append_right hi, List.getElem?_append_right hi]
      by_cases h2 : i - pre.length < m
      · rw [List.getElem?_append_left (by omega : i - pre.length < (xs.flatMap E.f).length), List.getElem?_append_left (by omega : i - pre.length < (ys.flatMap E.f).length)]
        have hk := flatK_get E ys (i - pre.length) (by rw [hl, ← hm]; exact h2)
        have : off ≤ i ∧ i < off + m := by omega
        rw [hk, List.getElem?_eq_getElem (by omega)]
        simp only [Option.map_some, if_pos this]
        rw [← hp]
      · rw [List.getElem?_append_right (by omega : (xs.flatMap E.f).length ≤ i - pre.length), List.getElem?_append_right (by omega : (ys.flatMap E.f).length ≤ i - pre.length), hlx, hly]
        have : ¬ (off ≤ i ∧ i < off + m) := by omega
        simp only [if_neg this]
        simp
  refine ⟨f.os, f.tape, f.output, Nat.le_trans f.dr (Nat.le_add_right _ _), ?_⟩
  have s1 := sat_upd (h' := fun c => if c = b then some (.cells (pre ++ (ys.flatMap E.f ++ post)).toArray E.T (0, 0)) else frag w c) f.sat (if_pos rfl) (fun c hcb => if_neg hcb)
  refine Sat.mono (fun c o e => ?_) s1
  have hh : (Go.Proofs.sortWorldK E.f E.k w b off n ys.toArray os).heap = w.heap.modify b (Go.Sort.onCells (Go.Sort.putCells id off (Go.Sort.flatK E.f E.k ys.toArray))) ++ os := rfl
  show (Go.Proofs.sortWorldK E.f E.k w b off n ys.toArray os).heap[c]? = some o
  rw [hh]
  split at e
  · rename_i ec
    subst ec
    rw [Array.getElem?_append_left (by simpa using hsz), Array.getElem?_modify, if_pos rfl, hb]
    simp only [Option.map_some, Go.Sort.onCells, hc]
    exact e
  · rename_i ec
    simp only [frag] at e
    have hcs : c < w.heap.size := by
      rcases Nat.lt_or_ge c w.heap.size with h | h
      · exact h
      · simp [h] at e
    rw [Array.getElem?_append_left (by simpa using hcs), Array.getElem?_modify, if_neg (fun x => ec x.symm)]
    exact e

/-! ## slices.SortFunc at seeds -/
theorem swo_ord : Go.Sort.SWO (Go.Proofs.ltOf ordI) := by
  have e : ∀ x y, Go.Proofs.ltOf ordI x y = decide (ltS x y) := fun x y => rfl
  refine ⟨fun x => ?_, fun x y z h1 h2 => ?_, fun x y z h1 h2 => ?_⟩
  · rw [e]; exact decide_eq_false (leS_refl x)
  · rw [e] at *; exact decide_eq_true (ltS_trans (of_decide_eq_true h1) (of_decide_eq_true h2))
  · rw [e] at *; exact decide_eq_false (leS_trans (of_decide_eq_false h2) (of_decide_eq_false h1))
abbrev cmpV : Value := .func (.func 77) #[] #[]
theorem sortFunc_S (v : Value) (l : List Seed) (hl : l.length ≤ 2^30) : Spec PP 76 #[v, cmpV] [Sl eS v l]
    (fun r M => ∃ l', r = .tuple #[] ∧ M = [Sl eS v l'] ∧ l'.Perm l ∧ l'.Pairwise leS) := by
  refine ⟨fc_enters_76, fun g F w fw => ?_⟩
  rcases l with _ | ⟨x, l⟩
  · obtain ⟨h1, h2, j, ha, hr⟩ := fw.sat
    have hv : ∃ p cap, v = .slice p 0 cap := by
      rcases ha with ⟨e, -⟩ | ⟨b, off, cap, pre, post, e, -⟩
      · exact ⟨_, _, e⟩
      · exact ⟨_, _, e⟩
    obtain ⟨p, cap, rfl⟩ := hv
    refine (Go.Proofs.AnyF.slices_SortFunc_none Go.Proofs.Tryz.sortS p cap cmpV w).mono ?_
    rintro e w' ⟨rfl, rfl⟩
    exact ⟨_, _, rfl, ⟨[], rfl, rfl, .rfl, .nil⟩, fw⟩
  · obtain ⟨b, off, cap, pre, post, rfl, hcap, hpre, hpost, fw'⟩ := sl_open fw (i := 0) (by simp)
    obtain ⟨hH, hblk⟩ := sl_holds hpre fw'
    have hcon := Go.Proofs.AnyQ.slices_SortFunc Go.Proofs.Tryz.sortS 3 (isAgg_agg fc_agg_45_3) (size_agg fc_agg_45_3) eS.f eS.len eS.one ordI swo_ord 77 #[] b off cap (x :: l).toArray w
      fc_enters_77 (fun m os dk _ y z => spec_grow (seeds_order y z) _) hH hblk (by simp only [List.size_toArray, List.length_cons] at hl ⊢; omega)
    refine hcon.mono ?_
    rintro e w' ⟨rfl, d', n, os, hperm, hsrt, rfl⟩
    have hsz : d'.size = (x :: l).length := by have := hperm.1; simpa using this
    refine ⟨_, _, rfl, ⟨d'.toList, rfl, rfl, ?_, ?_⟩, ?_⟩
    · have := hperm.2.2
      have e1 : d'.extract 0 (x :: l).toArray.size = d' := by rw [List.size_toArray, ← hsz]; exact Array.extract_size
      have e2 : (x :: l).toArray.extract 0 (x :: l).toArray.size = (x :: l).toArray := Array.extract_size
      rw [e1, e2] at this; exact this
    · rw [List.pairwise_iff_getElem]
      intro i j hi hj hij
      simp only [Array.length_toList] at hi hj
      have := hsrt i j (Nat.zero_le _) hij (by rw [List.size_toArray, ← hsz]; exact hj)
      rw [getElem!_pos d' j hj, getElem!_pos d' i hi] at this
      exact of_decide_eq_false this
    · have := sorted_fit hpre fw' n d'.toList (by simpa using hsz) os
      rw [Array.toArray_toList] at this
      obtain ⟨h1, h2, j, ha, hr⟩ := this.sat
      refine ⟨this.os, this.tape, this.output, this.dr, h1, h2, j, .inr ⟨b, off, cap, pre, post, ?_, ?_, hpre, ?_, ha⟩, hr⟩
      · simp [hsz]
      · simpa [hsz] using hcap
      · simpa [hsz] using hpost
theorem seeds_Sort (lv : Value) (l : List Seed) (hn : l.Nodup) (hl : l.length ≤ 2^20) : Spec PP 48 #[lv] [Sl eS lv l] (fun v M => ∃ ys, M = [Sl eS lv l, Sl eS v ys] ∧ ys.Perm l ∧ ys.Pairwise fun x y => ordI x y < 0) := by
  refine spec_of (Go.Proofs.Tryz.func48) rfl rfl rfl (by exact fc_enters_48) ?_
  intro g F
  try dsimp only [List.cons_append, List.nil_append]
  refine r_seq ?_
  refine r_reg ?_
  refine ws (st_po (po_assign rfl) rfl rfl rfl ?_)
  refine s_nil ?_
  refine at_then_wp ?_
  refine r_seq ?_
  refine r_reg ?_
  refine ws (st_po (po_move rfl) rfl rfl rfl ?_)
  refine ws (st_call (co_fn rfl rfl) (clone_S lv l (by omega)) (by infer_instance) rfl rfl rfl ?_)
  rintro v4 _ rfl
  try dsimp only [List.cons_append, List.nil_append]
  refine ws (st_po (po_assign rfl) rfl rfl rfl ?_)
  refine s_nil ?_
  refine at_then_wp ?_
  refine r_seq ?_
  refine r_reg ?_
  refine ws (st_po (po_move rfl) rfl rfl rfl ?_)
  refine ws (st_call (co_fn rfl rfl) (sortFunc_S v4 l (by omega)) (by infer_instance) rfl rfl rfl ?_)
  rintro v6 _ ⟨l', rfl, rfl, hp, hs⟩
  try dsimp only [List.cons_append, List.nil_append]
  have hn' : l'.Nodup := hp.nodup_iff.2 hn
  have hlt : l'.Pairwise fun x y => ordI x y < 0 := (hs.and hn').imp fun {x y} h => Classical.byContradiction fun h2 => h.2 (leS_anti h.1 h2)
  refine s_nil ?_
  refine at_then_wp ?_
  refine r_seq ?_
  refine r_reg ?_
  refine ws (st_po (po_move rfl) rfl rfl rfl ?_)
  refine ws (st_call (co_fn rfl rfl) (compact_S v4 l' (by have := hp.length_eq; omega) (fun i hi e => by have := List.pairwise_iff_getElem.1 hn' i (i + 1) (by omega) hi (by omega); exact this e.symm)) (by infer_instance) rfl rfl rfl ?_)
  rintro v8 _ ⟨rfl, rfl⟩
  try dsimp only [List.cons_append, List.nil_append]
  refine ws (st_po (po_assign rfl) rfl rfl rfl ?_)
  refine s_nil ?_
  refine at_then_wp ?_
  refine r_ret ?_
  refine at_ret1 rfl (rv_tmp rfl) ⟨_, ⟨l', rfl, hp, hlt⟩, ?_⟩
  try dsimp only [List.cons_append, List.nil_append]
  exact ent
end Hd
end
section
namespace Hd
set_option maxRecDepth 100000
open Go



theorem ord_key {x y : Seed} (h : ordI x y < 0) : x.key ≤ y.key := by
  unfold ordI orI cmpI at h
  by_cases e : x.key < y.key
  · omega
  · by_cases e2 : y.key < x.key
    · simp [e, e2] at h
    · omega

theorem sweep_Spread (tc lv : Value) (t : Tile) (l : List Seed) (hm : MayS t l) (hb : ∀ x ∈ t.c, 1 ≤ x ∧ x ≤ 255) (hn : l.Nodup) (hl : l.length ≤ 2^20) :
    Spec PP 55 #[tileV tc t, lv] [Sl eB tc t.c, Sl eS lv l]
      (fun v M => ∃ dv d, v = .tuple #[dv, .int .i64 0] ∧ M = [Sl eB tc t.c, Sl eS lv l, Sl eI dv d] ∧ d.length = t.c.length ∧ IsDist t.w t.h t.c (srcS l) (dF d)) := by
  obtain ⟨⟨hw, hh, hlen, h0⟩, hsd⟩ := id hm
  have hmul : t.w * t.h ≤ 16 * 16 := Int.mul_le_mul hw.2 hh.2 (by have := hh.1; omega) (by decide)
  have hsc : SwC t.w t.h t.c l := ⟨⟨⟨hw.1, by have := hw.2; omega⟩, hh.1, by have := hh.2; omega⟩, hlen, by omega, hb, fun s hs => by have := hsd s hs; exact ⟨⟨this.1, this.2.1, this.2.2.1⟩, this.2.2.2.1, this.2.2.2.2.1⟩, by omega⟩
  refine spec_of (Go.Proofs.Tryz.func55) rfl rfl rfl (by exact fc_enters_55) ?_
  intro g F
  try dsimp only [List.cons_append, List.nil_append, SwS.l, SwS.lf, SwS.p]
  refine r_seq ?_
  refine r_reg ?_
  refine ws (st_xo (xo_box rfl rfl) rfl rfl rfl ?_)
  rintro _ _ ⟨b2, rfl, rfl⟩
  refine ws (st_po (po_assign rfl) rfl rfl rfl ?_)
  refine ws (st_po (po_assign rfl) rfl rfl rfl ?_)
  refine s_nil ?_
  refine at_then_wp ?_
  refine r_seq ?_
  refine r_seq ?_
  refine r_reg ?_
  refine ws (st_po (po_loada rfl (by exact fc_agg_41_3) (by rfl)) rfl rfl rfl ?_)
  refine ws (st_po (po_move rfl) rfl rfl rfl ?_)
  refine ws (st_call (co_fn rfl rfl) (seeds_May tc lv t l (by omega) (by omega)) (by infer_instance) rfl rfl rfl ?_)
  rintro v9 _ ⟨rfl, rfl⟩
  try dsimp only [List.cons_append, List.nil_append, SwS.l, SwS.lf, SwS.p]
  refine ws (st_po (po_not rfl) rfl rfl rfl ?_)
  refine s_nil ?_
  refine at_then_wp ?_
  refine r_cond_f rfl (by simp [hm]) ?_
  refine r_skip ?_
  refine at_then_wp ?_
  refine r_joink (S := Nat × Nat × Value × Value × List Seed) (fun ⟨b, rb, sv, dv, ys⟩ => [(6, .pointer (some ⟨b, 0, none⟩))]) [] (fun ⟨b, rb, sv, dv, ys⟩ => [Blk b 119 [.int .i64 t.w, .int .i64 t.h, tc, ringP rb, sv, dv], Sl eB tc t.c, Sl eS sv ys, Sl eI dv (List.replicate t.c.length 1099511627776), ringB rb 0 0 noB, All (noB.map slK), Sl eS lv l, F]) (fun ⟨b, rb, sv, dv, ys⟩ => ys.Perm l ∧ ys.Pairwise fun x y => ordI x y < 0) (trivial) ?_ ?_
  · skip
    refine r_tree [] _ 12 fc_mixed (by kernel_rfl) (fun _ h => h) ?_
    refine t_rd (i := 0) (by kernel_rfl) rfl (po_loada rfl (by exact fc_agg_41_3) (by rfl)) (by first | exact fun _ h => h | exact ent) rfl rfl rfl ?_
    refine t_fr (i := 2) (by kernel_rfl) rfl (po_move rfl) rfl rfl rfl ?_
    refine t_fr (i := 5) (by kernel_rfl) rfl (po_faddr rfl (by exact fc_field_41_2_2)) rfl rfl rfl ?_
    refine t_rd (i := 6) (by kernel_rfl) rfl (po_load rfl (by exact fc_flat_22) (by rfl)) (by first | exact fun _ h => h | exact ent) rfl rfl rfl ?_
    refine t_rd (i := 7) (by kernel_rfl) rfl (po_len rfl (by exact fc_slice_22_5_1)) (by first | exact fun _ h => h | exact ent) rfl rfl rfl ?_
    refine t_br2 (i := 1) (j := 4) (by kernel_rfl) ?_ ?_
    · skip
      refine tb rfl (st_call (co_fn rfl rfl) (ring_New 0 (by decide) (by decide)) (by infer_instance) rfl rfl rfl ?_)
      rintro v12 _ ⟨rb, rfl, rfl⟩
      try dsimp only [List.cons_append, List.nil_append, SwS.l, SwS.lf, SwS.p]
      refine ⟨fun _ => (by first | exact fun _ h => h | exact ent), ?_⟩
      refine t_br2 (i := 3) (j := 4) (by kernel_rfl) ?_ ?_
      · skip
        refine tb rfl (st_call (co_fn rfl rfl) (seeds_Sort lv l hn hl) (by infer_instance) rfl rfl rfl ?_)
        rintro v14 _ ⟨ys, rfl, hp, hys⟩
        try dsimp only [List.cons_append, List.nil_append, SwS.l, SwS.lf, SwS.p]
        refine ⟨fun _ => (by first | exact fun _ h => h | exact ent), ?_⟩
        refine t_st (i := 4) (by kernel_rfl) rfl (st_xo (xo_bslice eI [_] rfl (by exact fc_slice_35_3_1) (by exact fc_elem_3_1_8) ⟨rfl, rfl, trivial⟩ rfl (by decide)) rfl rfl rfl ?_)
        rintro v15 _ rfl
        refine ⟨fun _ => (by first | exact fun _ h => h | exact ent), ?_⟩
        refine t_st (i := 8) (by kernel_rfl) rfl (st_call (co_fn rfl rfl) (repeat_I v15 1099511627776 t.c.length (by omega) (by omega)) (by infer_instance) rfl rfl rfl ?_)
        rintro v19 _ rfl
        try dsimp only [List.cons_append, List.nil_append, SwS.l, SwS.lf, SwS.p]
        refine ⟨fun _ => (by first | exact fun _ h => h | exact ent), ?_⟩
        refine t_st (i := 9) (by kernel_rfl) rfl (st_po (po_build1 rfl (by exact fc_zero_119) (by exact fc_places_119_0_1_2_3) (by exact fc_info_119) rfl) rfl rfl rfl ?_)
        refine ⟨fun _ => (by first | exact fun _ h => h | exact ent), ?_⟩
        refine t_st (i := 10) (by kernel_rfl) rfl (st_xo (xo_box rfl rfl) rfl rfl rfl ?_)
        rintro _ _ ⟨b21, rfl, rfl⟩
        refine ⟨fun _ => (by first | exact fun _ h => h | exact ent), ?_⟩
        refine t_fr (i := 11) (by kernel_rfl) rfl (po_assign rfl) rfl rfl rfl ?_
        refine t_nil (by kernel_rfl) ?_
        rw [Int.toNat_natCast]
        exact at_join ((b21, rb, v14, v19, ys)) (And.intro rfl (trivial)) (trivial) (⟨hp, hys⟩) ent
      · skip
        refine tb rfl (st_xo (xo_bslice eI [_] rfl (by exact fc_slice_35_3_1) (by exact fc_elem_3_1_8) ⟨rfl, rfl, trivial⟩ rfl (by decide)) rfl rfl rfl ?_)
        rintro v15 _ rfl
        refine ⟨fun _ => (by first | exact fun _ h => h | exact ent), ?_⟩
        refine t_st (i := 3) (by kernel_rfl) rfl (st_call (co_fn rfl rfl) (seeds_Sort lv l hn hl) (by infer_instance) rfl rfl rfl ?_)
        rintro v14 _ ⟨ys, rfl, hp, hys⟩
        try dsimp only [List.cons_append, List.nil_append, SwS.l, SwS.lf, SwS.p]
        refine ⟨fun _ => (by first | exact fun _ h => h | exact ent), ?_⟩
        refine t_st (i := 8) (by kernel_rfl) rfl (st_call (co_fn rfl rfl) (repeat_I v15 1099511627776 t.c.length (by omega) (by omega)) (by infer_instance) rfl rfl rfl ?_)
        rintro v19 _ rfl
        try dsimp only [List.cons_append, List.nil_append, SwS.l, SwS.lf, SwS.p]
        refine ⟨fun _ => (by first | exact fun _ h => h | exact ent), ?_⟩
        refine t_st (i := 9) (by kernel_rfl) rfl (st_po (po_build1 rfl (by exact fc_zero_119) (by exact fc_places_119_0_1_2_3) (by exact fc_info_119) rfl) rfl rfl rfl ?_)
        refine ⟨fun _ => (by first | exact fun _ h => h | exact ent), ?_⟩
        refine t_st (i := 10) (by kernel_rfl) rfl (st_xo (xo_box rfl rfl) rfl rfl rfl ?_)
        rintro _ _ ⟨b21, rfl, rfl⟩
        refine ⟨fun _ => (by first | exact fun _ h => h | exact ent), ?_⟩
        refine t_fr (i := 11) (by kernel_rfl) rfl (po_assign rfl) rfl rfl rfl ?_
        refine t_nil (by kernel_rfl) ?_
        rw [Int.toNat_natCast]
        exact at_join ((b21, rb, v14, v19, ys)) (And.intro rfl (trivial)) (trivial) (⟨hp, hys⟩) ent
    · skip
      refine tb rfl (st_xo (xo_bslice eI [_] rfl (by exact fc_slice_35_3_1) (by exact fc_elem_3_1_8) ⟨rfl, rfl, trivial⟩ rfl (by decide)) rfl rfl rfl ?_)
      rintro v15 _ rfl
      refine ⟨fun _ => (by first | exact fun _ h => h | exact ent), ?_⟩
      refine t_st (i := 1) (by kernel_rfl) rfl (st_call (co_fn rfl rfl) (ring_New 0 (by decide) (by decide)) (by infer_instance) rfl rfl rfl ?_)
      rintro v12 _ ⟨rb, rfl, rfl⟩
      try dsimp only [List.cons_append, List.nil_append, SwS.l, SwS.lf, SwS.p]
      refine ⟨fun _ => (by first | exact fun _ h => h | exact ent), ?_⟩
      refine t_st (i := 3) (by kernel_rfl) rfl (st_call (co_fn rfl rfl) (seeds_Sort lv l hn hl) (by infer_instance) rfl rfl rfl ?_)
      rintro v14 _ ⟨ys, rfl, hp, hys⟩
      try dsimp only [List.cons_append, List.nil_append, SwS.l, SwS.lf, SwS.p]
      refine ⟨fun _ => (by first | exact fun _ h => h | exact ent), ?_⟩
      refine t_st (i := 8) (by kernel_rfl) rfl (st_call (co_fn rfl rfl) (repeat_I v15 1099511627776 t.c.length (by omega) (by omega)) (by infer_instance) rfl rfl rfl ?_)
      rintro v19 _ rfl
      try dsimp only [List.cons_append, List.nil_append, SwS.l, SwS.lf, SwS.p]
      refine ⟨fun _ => (by first | exact fun _ h => h | exact ent), ?_⟩
      refine t_st (i := 9) (by kernel_rfl) rfl (st_po (po_build1 rfl (by exact fc_zero_119) (by exact fc_places_119_0_1_2_3) (by exact fc_info_119) rfl) rfl rfl rfl ?_)
      refine ⟨fun _ => (by first | exact fun _ h => h | exact ent), ?_⟩
      refine t_st (i := 10) (by kernel_rfl) rfl (st_xo (xo_box rfl rfl) rfl rfl rfl ?_)
      rintro _ _ ⟨b21, rfl, rfl⟩
      refine ⟨fun _ => (by first | exact fun _ h => h | exact ent), ?_⟩
      refine t_fr (i := 11) (by kernel_rfl) rfl (po_assign rfl) rfl rfl rfl ?_
      refine t_nil (by kernel_rfl) ?_
      rw [Int.toNat_natCast]
      exact at_join ((b21, rb, v14, v19, ys)) (And.intro rfl (trivial)) (trivial) (⟨hp, hys⟩) ent
  · rintro ⟨b, rb, sv, dv, ys⟩ ⟨hp, hys⟩
    try dsimp only [List.cons_append, List.nil_append, SwS.l, SwS.lf, SwS.p]
    have sw0 := Sw.start (T := ys.length + 4 * t.c.length) hsc ys (fun s => hp.mem_iff) (hys.imp ord_key) (by omega)
    refine r_seq ?_
    refine r_reg ?_
    refine ws (st_po (po_move rfl) rfl rfl rfl ?_)
    refine ws (st_call (co_fn rfl rfl) (sweep_run ⟨b, t.w, t.h, tc, t.c, rb, sv, dv⟩ hsc sw0 (by have := hp.length_eq; omega)) (by infer_instance) rfl rfl rfl ?_)
    rintro v23 _ ⟨a', B', d', tot', tv', rfl, w', rfl⟩
    try dsimp only [List.cons_append, List.nil_append, SwS.l, SwS.lf, SwS.p]
    refine s_nil ?_
    refine at_then_wp ?_
    refine r_seq ?_
    refine r_reg ?_
    refine ws (st_po (po_move rfl) rfl rfl rfl ?_)
    refine ws (st_po (po_nil rfl) rfl rfl rfl ?_)
    refine ws (st_po (po_faddr rfl (by exact fc_field_119_3_5)) rfl rfl rfl ?_)
    refine ws (st_po (po_load rfl (by exact fc_flat_35) (by rfl)) rfl rfl rfl ?_)
    refine ws (st_po (po_assign rfl) rfl rfl rfl ?_)
    refine ws (st_po (po_assign rfl) rfl rfl rfl ?_)
    refine s_nil ?_
    refine at_then_wp ?_
    refine r_ret ?_
    refine at_ret2 rfl (rv_tmp rfl) (rv_tmp rfl) ⟨_, ⟨dv, d', rfl, rfl, w'.dl, w'.done hsc⟩, ?_⟩
    try dsimp only [List.cons_append, List.nil_append, SwS.l, SwS.lf, SwS.p]
    exact ent
end Hd
end
section
namespace Hd
set_option maxRecDepth 100000
open Go

structure HelmS where
  b : Nat
  t : Tile
  tc : Value
  lv : Value
  l : List Seed
  dv : Value
  d : List Int
abbrev HelmS.m (s : HelmS) : List HP := [Blk s.b 91 [.int .i64 s.t.w, .int .i64 s.t.h, s.tc, s.lv, s.dv], Sl eB s.tc s.t.c, Sl eS s.lv s.l, Sl eI s.dv s.d]
abbrev HelmS.p (s : HelmS) : Value := .pointer (some ⟨s.b, 0, none⟩)
structure HelmOk (s : HelmS) : Prop where
  may : MayT s.t
  bt : ∀ x ∈ s.t.c, 1 ≤ x ∧ x ≤ 255
  dl : s.d.length = s.t.c.length
  dr : ∀ x ∈ s.d, 0 ≤ x ∧ x ≤ 1099511627776
  ll : s.l.length ≤ 2^20
theorem HelmOk.big {s : HelmS} (k : HelmOk s) : May s.t.w s.t.h ∧ (s.t.c.length : Int) = s.t.w * s.t.h ∧ s.t.c.length ≤ 256 := by
  have h1 := k.may.1
  have h2 := k.may.2.1
  unfold Sized at h1 h2
  have hmul : s.t.w * s.t.h ≤ 16 * 16 := Int.mul_le_mul h1.2 h2.2 (by omega) (by decide)
  have := k.may.2.2.1
  exact ⟨by omega, this, by omega⟩

theorem helm_near (s : HelmS) (ok : HelmOk s) (c k : Int) (hc : 0 ≤ c ∧ c < s.t.c.length) (hk : 0 ≤ k ∧ k < 4) : Spec PP 144 #[s.p, .int .i64 c, .int .i64 k] s.m (fun v M => v = .int .i64 (stepN s.t.w s.t.h c k) ∧ M = s.m) := by
  obtain ⟨hm, hlen, hsm⟩ := ok.big
  have hic : IsC s.t.w s.t.h c := ⟨hm, hc.1, by rw [← hlen]; exact hc.2⟩
  obtain ⟨s0, s1, s2, s3⟩ := step_val hic
  have hxy := isc_xy hic
  refine spec_of (Go.Proofs.Tryz.func144) rfl rfl rfl (by exact fc_enters_144) ?_
  intro g F
  try dsimp only [List.cons_append, List.nil_append, HelmS.m, HelmS.p]
  refine r_seq ?_
  refine r_reg ?_
  refine ws (st_po (po_assign rfl) rfl rfl rfl ?_)
  refine s_nil ?_
  refine at_then_wp ?_
  refine r_seq ?_
  refine r_ord [] _ [(0, 1), (1, 1), (2, 1), (3, 1), (4, 1), (5, 0), (6, 1), (7, 1), (8, 1), (9, 1), (10, 1), (11, 1), (12, 0), (13, 1), (14, 1), (15, 1)] fc_mixed (by kernel_rfl) (fun _ h => h) ?_
  refine o_fr rfl (po_move rfl) rfl rfl rfl ?_
  refine o_fr rfl (po_move rfl) rfl rfl rfl ?_
  refine o_fr rfl (po_nil rfl) rfl rfl rfl ?_
  refine o_fr rfl (po_faddr rfl (by exact fc_field_91_0_0)) rfl rfl rfl ?_
  refine o_fr rfl (po_faddr rfl (by exact fc_field_41_0_0)) rfl rfl rfl ?_
  refine o_rd rfl (po_load rfl (by exact fc_flat_3) (by rfl)) (by first | exact fun _ h => h | exact ent) rfl rfl rfl ?_
  refine o_fr rfl (po_rem' rfl rfl (by omega) (by omega)) rfl rfl rfl ?_
  refine o_fr rfl (po_move rfl) rfl rfl rfl ?_
  refine o_fr rfl (po_move rfl) rfl rfl rfl ?_
  refine o_fr rfl (po_nil rfl) rfl rfl rfl ?_
  refine o_fr rfl (po_faddr rfl (by exact fc_field_91_0_0)) rfl rfl rfl ?_
  refine o_fr rfl (po_faddr rfl (by exact fc_field_41_0_0)) rfl rfl rfl ?_
  refine o_rd rfl (po_load rfl (by exact fc_flat_3) (by rfl)) (by first | exact fun _ h => h | exact ent) rfl rfl rfl ?_
  refine o_fr rfl (po_quo' rfl rfl (by omega) (by omega) (by omega)) rfl rfl rfl ?_
  refine o_fr rfl (po_assign rfl) rfl rfl rfl ?_
  refine o_fr rfl (po_assign rfl) rfl rfl rfl ?_
  refine o_nil ?_
  refine at_then_wp ?_
  refine r_seq ?_
  refine r_block ?_
  refine r_seq ?_
  refine r_reg ?_
  refine ws (st_po (po_move rfl) rfl rfl rfl ?_)
  refine ws (st_po (po_eq rfl rfl) rfl rfl rfl ?_)
  by_cases h0 : k = 0
  · skip
    refine ws (st_po (po_bt (po_move rfl) (decide_eq_true h0)) rfl rfl rfl ?_)
    refine ws (st_po (po_move rfl) rfl rfl rfl ?_)
    refine ws (st_po (po_gt rfl rfl) rfl rfl rfl ?_)
    refine ws (st_po (po_pick_t rfl rfl) rfl rfl rfl ?_)
    refine ws (st_po (po_assign rfl) rfl rfl rfl ?_)
    refine s_nil ?_
    refine at_then_wp ?_
    first | refine r_cond_not rfl ?_ ?_ | refine r_cond_dec rfl ?_ ?_ | refine r_cond rfl ?_ ?_
    · intro hy
      refine r_seq ?_
      refine r_reg ?_
      refine ws (st_po (po_move rfl) rfl rfl rfl ?_)
      refine ws (st_po (po_move rfl) rfl rfl rfl ?_)
      refine ws (st_po (po_nil rfl) rfl rfl rfl ?_)
      refine ws (st_po (po_faddr rfl (by exact fc_field_91_0_0)) rfl rfl rfl ?_)
      refine ws (st_po (po_faddr rfl (by exact fc_field_41_0_0)) rfl rfl rfl ?_)
      refine ws (st_po (po_load rfl (by exact fc_flat_3) (by rfl)) rfl rfl rfl ?_)
      refine ws (st_po (po_sub' rfl rfl (by omega) (by omega)) rfl rfl rfl ?_)
      refine ws (st_po (po_assign rfl) rfl rfl rfl ?_)
      refine s_nil ?_
      refine at_then_wp ?_
      refine r_ret ?_
      refine at_block_ret ?_
      refine at_then_ret ?_
      refine at_ret1 rfl (rv_tmp rfl) ⟨_, ⟨by rw [h0, s0, if_pos hy], rfl⟩, ?_⟩
      try dsimp only [List.cons_append, List.nil_append, HelmS.m, HelmS.p]
      exact ent
    · intro hy
      refine r_seq ?_
      refine r_reg ?_
      refine ws (st_po (po_move rfl) rfl rfl rfl ?_)
      refine ws (st_po (po_eq rfl rfl) rfl rfl rfl ?_)
      refine ws (st_po (po_bf (po_move rfl) (decide_eq_false (by omega))) rfl rfl rfl ?_)
      refine ws (st_no rfl rfl rfl ?_)
      refine ws (st_no rfl rfl rfl ?_)
      refine ws (st_no rfl rfl rfl ?_)
      refine ws (st_no rfl rfl rfl ?_)
      refine ws (st_no rfl rfl rfl ?_)
      refine ws (st_no rfl rfl rfl ?_)
      refine ws (st_no rfl rfl rfl ?_)
      refine ws (st_no rfl rfl rfl ?_)
      refine ws (st_po (po_pick_f rfl rfl) rfl rfl rfl ?_)
      refine ws (st_po (po_assign rfl) rfl rfl rfl ?_)
      refine s_nil ?_
      refine at_then_wp ?_
      refine r_cond_f rfl rfl ?_
      refine r_seq ?_
      refine r_reg ?_
      refine ws (st_po (po_move rfl) rfl rfl rfl ?_)
      refine ws (st_po (po_eq rfl rfl) rfl rfl rfl ?_)
      refine ws (st_po (po_bf (po_move rfl) (decide_eq_false (by omega))) rfl rfl rfl ?_)
      refine ws (st_no rfl rfl rfl ?_)
      refine ws (st_no rfl rfl rfl ?_)
      refine ws (st_no rfl rfl rfl ?_)
      refine ws (st_no rfl rfl rfl ?_)
      refine ws (st_no rfl rfl rfl ?_)
      refine ws (st_no rfl rfl rfl ?_)
      refine ws (st_no rfl rfl rfl ?_)
      refine ws (st_no rfl rfl rfl ?_)
      refine ws (st_po (po_pick_f rfl rfl) rfl rfl rfl ?_)
      refine ws (st_po (po_assign rfl) rfl rfl rfl ?_)
      refine s_nil ?_
      refine at_then_wp ?_
      refine r_cond_f rfl rfl ?_
      refine r_seq ?_
      refine r_reg ?_
      refine ws (st_po (po_move rfl) rfl rfl rfl ?_)
      refine ws (st_po (po_eq rfl rfl) rfl rfl rfl ?_)
      refine ws (st_po (po_bf (po_move rfl) (decide_eq_false (by omega))) rfl rfl rfl ?_)
      refine ws (st_no rfl rfl rfl ?_)
      refine ws (st_no rfl rfl rfl ?_)
      refine ws (st_po (po_pick_f rfl rfl) rfl rfl rfl ?_)
      refine ws (st_po (po_assign rfl) rfl rfl rfl ?_)
      refine s_nil ?_
      refine at_then_wp ?_
      refine r_cond_f rfl rfl ?_
      refine r_skip ?_
      refine at_block_normal ?_
      refine at_then_wp ?_
      refine r_seq ?_
      refine r_reg ?_
      refine ws (st_po (po_assign rfl) rfl rfl rfl ?_)
      refine s_nil ?_
      refine at_then_wp ?_
      refine r_ret ?_
      refine at_ret1 rfl (rv_tmp rfl) ⟨_, ⟨by rw [h0, s0, if_neg hy], rfl⟩, ?_⟩
      try dsimp only [List.cons_append, List.nil_append, HelmS.m, HelmS.p]
      exact ent
  · skip
    refine ws (st_po (po_bf (po_move rfl) (decide_eq_false h0)) rfl rfl rfl ?_)
    refine ws (st_no rfl rfl rfl ?_)
    refine ws (st_no rfl rfl rfl ?_)
    refine ws (st_po (po_pick_f rfl rfl) rfl rfl rfl ?_)
    refine ws (st_po (po_assign rfl) rfl rfl rfl ?_)
    refine s_nil ?_
    refine at_then_wp ?_
    refine r_cond_f rfl rfl ?_
    refine r_seq ?_
    refine r_reg ?_
    refine ws (st_po (po_move rfl) rfl rfl rfl ?_)
    refine ws (st_po (po_eq rfl rfl) rfl rfl rfl ?_)
    by_cases h1 : k = 1
    · skip
      refine ws (st_po (po_bt (po_move rfl) (decide_eq_true h1)) rfl rfl rfl ?_)
      refine ws (st_po (po_move rfl) rfl rfl rfl ?_)
      refine ws (st_po (po_move rfl) rfl rfl rfl ?_)
      refine ws (st_po (po_nil rfl) rfl rfl rfl ?_)
      refine ws (st_po (po_faddr rfl (by exact fc_field_91_0_0)) rfl rfl rfl ?_)
      refine ws (st_po (po_faddr rfl (by exact fc_field_41_0_0)) rfl rfl rfl ?_)
      refine ws (st_po (po_load rfl (by exact fc_flat_3) (by rfl)) rfl rfl rfl ?_)
      refine ws (st_po (po_sub' rfl rfl (by omega) (by omega)) rfl rfl rfl ?_)
      refine ws (st_po (po_lt rfl rfl) rfl rfl rfl ?_)
      refine ws (st_po (po_pick_t rfl rfl) rfl rfl rfl ?_)
      refine ws (st_po (po_assign rfl) rfl rfl rfl ?_)
      refine s_nil ?_
      refine at_then_wp ?_
      first | refine r_cond_not rfl ?_ ?_ | refine r_cond_dec rfl ?_ ?_ | refine r_cond rfl ?_ ?_
      · intro hy
        refine r_seq ?_
        refine r_reg ?_
        refine ws (st_po (po_move rfl) rfl rfl rfl ?_)
        refine ws (st_po (po_add' rfl rfl (by omega) (by omega)) rfl rfl rfl ?_)
        refine ws (st_po (po_assign rfl) rfl rfl rfl ?_)
        refine s_nil ?_
        refine at_then_wp ?_
        refine r_ret ?_
        refine at_block_ret ?_
        refine at_then_ret ?_
        refine at_ret1 rfl (rv_tmp rfl) ⟨_, ⟨by rw [h1, s1, if_pos hy], rfl⟩, ?_⟩
        try dsimp only [List.cons_append, List.nil_append, HelmS.m, HelmS.p]
        exact ent
      · intro hy
        refine r_seq ?_
        refine r_reg ?_
        refine ws (st_po (po_move rfl) rfl rfl rfl ?_)
        refine ws (st_po (po_eq rfl rfl) rfl rfl rfl ?_)
        refine ws (st_po (po_bf (po_move rfl) (decide_eq_false (by omega))) rfl rfl rfl ?_)
        refine ws (st_no rfl rfl rfl ?_)
        refine ws (st_no rfl rfl rfl ?_)
        refine ws (st_no rfl rfl rfl ?_)
        refine ws (st_no rfl rfl rfl ?_)
        refine ws (st_no rfl rfl rfl ?_)
        refine ws (st_no rfl rfl rfl ?_)
        refine ws (st_no rfl rfl rfl ?_)
        refine ws (st_no rfl rfl rfl ?_)
        refine ws (st_po (po_pick_f rfl rfl) rfl rfl rfl ?_)
        refine ws (st_po (po_assign rfl) rfl rfl rfl ?_)
        refine s_nil ?_
        refine at_then_wp ?_
        refine r_cond_f rfl rfl ?_
        refine r_seq ?_
        refine r_reg ?_
        refine ws (st_po (po_move rfl) rfl rfl rfl ?_)
        refine ws (st_po (po_eq rfl rfl) rfl rfl rfl ?_)
        refine ws (st_po (po_bf (po_move rfl) (decide_eq_false (by omega))) rfl rfl rfl ?_)
        refine ws (st_no rfl rfl rfl ?_)
        refine ws (st_no rfl rfl rfl ?_)
        refine ws (st_po (po_pick_f rfl rfl) rfl rfl rfl ?_)
        refine ws (st_po (po_assign rfl) rfl rfl rfl ?_)
        refine s_nil ?_
        refine at_then_wp ?_
        refine r_cond_f rfl rfl ?_
        refine r_skip ?_
        refine at_block_normal ?_
        refine at_then_wp ?_
        refine r_seq ?_
        refine r_reg ?_
        refine ws (st_po (po_assign rfl) rfl rfl rfl ?_)
        refine s_nil ?_
        refine at_then_wp ?_
        refine r_ret ?_
        refine at_ret1 rfl (rv_tmp rfl) ⟨_, ⟨by rw [h1, s1, if_neg hy], rfl⟩, ?_⟩
        try dsimp only [List.cons_append, List.nil_append, HelmS.m, HelmS.p]
        exact ent
    · skip
      refine ws (st_po (po_bf (po_move rfl) (decide_eq_false h1)) rfl rfl rfl ?_)
      refine ws (st_no rfl rfl rfl ?_)
      refine ws (st_no rfl rfl rfl ?_)
      refine ws (st_no rfl rfl rfl ?_)
      refine ws (st_no rfl rfl rfl ?_)
      refine ws (st_no rfl rfl rfl ?_)
      refine ws (st_no rfl rfl rfl ?_)
      refine ws (st_no rfl rfl rfl ?_)
      refine ws (st_no rfl rfl rfl ?_)
      refine ws (st_po (po_pick_f rfl rfl) rfl rfl rfl ?_)
      refine ws (st_po (po_assign rfl) rfl rfl rfl ?_)
      refine s_nil ?_
      refine at_then_wp ?_
      refine r_cond_f rfl rfl ?_
      refine r_seq ?_
      refine r_reg ?_
      refine ws (st_po (po_move rfl) rfl rfl rfl ?_)
      refine ws (st_po (po_eq rfl rfl) rfl rfl rfl ?_)
      by_cases h2 : k = 2
      · skip
        refine ws (st_po (po_bt (po_move rfl) (decide_eq_true h2)) rfl rfl rfl ?_)
        refine ws (st_po (po_move rfl) rfl rfl rfl ?_)
        refine ws (st_po (po_move rfl) rfl rfl rfl ?_)
        refine ws (st_po (po_nil rfl) rfl rfl rfl ?_)
        refine ws (st_po (po_faddr rfl (by exact fc_field_91_0_0)) rfl rfl rfl ?_)
        refine ws (st_po (po_faddr rfl (by exact fc_field_41_1_1)) rfl rfl rfl ?_)
        refine ws (st_po (po_load rfl (by exact fc_flat_3) (by rfl)) rfl rfl rfl ?_)
        refine ws (st_po (po_sub' rfl rfl (by omega) (by omega)) rfl rfl rfl ?_)
        refine ws (st_po (po_lt rfl rfl) rfl rfl rfl ?_)
        refine ws (st_po (po_pick_t rfl rfl) rfl rfl rfl ?_)
        refine ws (st_po (po_assign rfl) rfl rfl rfl ?_)
        refine s_nil ?_
        refine at_then_wp ?_
        first | refine r_cond_not rfl ?_ ?_ | refine r_cond_dec rfl ?_ ?_ | refine r_cond rfl ?_ ?_
        · intro hy
          refine r_seq ?_
          refine r_reg ?_
          refine ws (st_po (po_move rfl) rfl rfl rfl ?_)
          refine ws (st_po (po_move rfl) rfl rfl rfl ?_)
          refine ws (st_po (po_nil rfl) rfl rfl rfl ?_)
          refine ws (st_po (po_faddr rfl (by exact fc_field_91_0_0)) rfl rfl rfl ?_)
          refine ws (st_po (po_faddr rfl (by exact fc_field_41_0_0)) rfl rfl rfl ?_)
          refine ws (st_po (po_load rfl (by exact fc_flat_3) (by rfl)) rfl rfl rfl ?_)
          refine ws (st_po (po_add' rfl rfl (by omega) (by omega)) rfl rfl rfl ?_)
          refine ws (st_po (po_assign rfl) rfl rfl rfl ?_)
          refine s_nil ?_
          refine at_then_wp ?_
          refine r_ret ?_
          refine at_block_ret ?_
          refine at_then_ret ?_
          refine at_ret1 rfl (rv_tmp rfl) ⟨_, ⟨by rw [h2, s2, if_pos hy], rfl⟩, ?_⟩
          try dsimp only [List.cons_append, List.nil_append, HelmS.m, HelmS.p]
          exact ent
        · intro hy
          refine r_seq ?_
          refine r_reg ?_
          refine ws (st_po (po_move rfl) rfl rfl rfl ?_)
          refine ws (st_po (po_eq rfl rfl) rfl rfl rfl ?_)
          refine ws (st_po (po_bf (po_move rfl) (decide_eq_false (by omega))) rfl rfl rfl ?_)
          refine ws (st_no rfl rfl rfl ?_)
          refine ws (st_no rfl rfl rfl ?_)
          refine ws (st_po (po_pick_f rfl rfl) rfl rfl rfl ?_)
          refine ws (st_po (po_assign rfl) rfl rfl rfl ?_)
          refine s_nil ?_
          refine at_then_wp ?_
          refine r_cond_f rfl rfl ?_
          refine r_skip ?_
          refine at_block_normal ?_
          refine at_then_wp ?_
          refine r_seq ?_
          refine r_reg ?_
          refine ws (st_po (po_assign rfl) rfl rfl rfl ?_)
          refine s_nil ?_
          refine at_then_wp ?_
          refine r_ret ?_
          refine at_ret1 rfl (rv_tmp rfl) ⟨_, ⟨by rw [h2, s2, if_neg hy], rfl⟩, ?_⟩
          try dsimp only [List.cons_append, List.nil_append, HelmS.m, HelmS.p]
          exact ent
      · skip
        refine ws (st_po (po_bf (po_move rfl) (decide_eq_false h2)) rfl rfl rfl ?_)
        refine ws (st_no rfl rfl rfl ?_)
        refine ws (st_no rfl rfl rfl ?_)
        refine ws (st_no rfl rfl rfl ?_)
        refine ws (st_no rfl rfl rfl ?_)
        refine ws (st_no rfl rfl rfl ?_)
        refine ws (st_no rfl rfl rfl ?_)
        refine ws (st_no rfl rfl rfl ?_)
        refine ws (st_no rfl rfl rfl ?_)
        refine ws (st_po (po_pick_f rfl rfl) rfl rfl rfl ?_)
        refine ws (st_po (po_assign rfl) rfl rfl rfl ?_)
        refine s_nil ?_
        refine at_then_wp ?_
        refine r_cond_f rfl rfl ?_
        refine r_seq ?_
        refine r_reg ?_
        refine ws (st_po (po_move rfl) rfl rfl rfl ?_)
        refine ws (st_po (po_eq rfl rfl) rfl rfl rfl ?_)
        refine ws (st_po (po_bt (po_move rfl) (decide_eq_true (by omega))) rfl rfl rfl ?_)
        refine ws (st_po (po_move rfl) rfl rfl rfl ?_)
        refine ws (st_po (po_gt rfl rfl) rfl rfl rfl ?_)
        refine ws (st_po (po_pick_t rfl rfl) rfl rfl rfl ?_)
        refine ws (st_po (po_assign rfl) rfl rfl rfl ?_)
        refine s_nil ?_
        refine at_then_wp ?_
        first | refine r_cond_not rfl ?_ ?_ | refine r_cond_dec rfl ?_ ?_ | refine r_cond rfl ?_ ?_
        · intro hy
          refine r_seq ?_
          refine r_reg ?_
          refine ws (st_po (po_move rfl) rfl rfl rfl ?_)
          refine ws (st_po (po_sub' rfl rfl (by omega) (by omega)) rfl rfl rfl ?_)
          refine ws (st_po (po_assign rfl) rfl rfl rfl ?_)
          refine s_nil ?_
          refine at_then_wp ?_
          refine r_ret ?_
          refine at_block_ret ?_
          refine at_then_ret ?_
          refine at_ret1 rfl (rv_tmp rfl) ⟨_, ⟨by rw [show k = 3 by omega, s3, if_pos hy], rfl⟩, ?_⟩
          try dsimp only [List.cons_append, List.nil_append, HelmS.m, HelmS.p]
          exact ent
        · intro hy
          refine r_skip ?_
          refine at_block_normal ?_
          refine at_then_wp ?_
          refine r_seq ?_
          refine r_reg ?_
          refine ws (st_po (po_assign rfl) rfl rfl rfl ?_)
          refine s_nil ?_
          refine at_then_wp ?_
          refine r_ret ?_
          refine at_ret1 rfl (rv_tmp rfl) ⟨_, ⟨by rw [show k = 3 by omega, s3, if_neg hy], rfl⟩, ?_⟩
          try dsimp only [List.cons_append, List.nil_append, HelmS.m, HelmS.p]
          exact ent

/-- does a local's distance come about by a side? -/
def ByN (t : Tile) (l : List Seed) (d : List Int) (c k : Int) : Prop :=
  if stepN t.w t.h c k < 0 then bestN l c k = gAt d c else gAt t.c (stepN t.w t.h c k) ≠ 255 ∧ gAt t.c (stepN t.w t.h c k) + gAt d (stepN t.w t.h c k) = gAt d c
instance (t : Tile) (l : List Seed) (d : List Int) (c k : Int) : Decidable (ByN t l d c k) := by unfold ByN; infer_instance

theorem helm_by (s : HelmS) (ok : HelmOk s) (c k : Int) (hc : 0 ≤ c ∧ c < s.t.c.length) (hk : 0 ≤ k ∧ k < 4) : Spec PP 114 #[s.p, .int .i64 c, .int .i64 k] s.m (fun v M => v = .bool (decide (ByN s.t s.l s.d c k)) ∧ M = s.m) := by
  obtain ⟨hm, hlen, hsm⟩ := ok.big
  have hic : IsC s.t.w s.t.h c := ⟨hm, hc.1, by rw [← hlen]; exact hc.2⟩
  have hdl := ok.dl
  have hst := step_ok hic hk.1 (by omega)
  have hdc : gAt s.d c = s.d[c.toNat]'(by omega) := gAt_get (by omega)
  refine spec_of (Go.Proofs.Tryz.func114) rfl rfl rfl (by exact fc_enters_114) ?_
  intro g F
  try dsimp only [List.cons_append, List.nil_append, HelmS.m, HelmS.p]
  refine r_seq ?_
  refine r_reg ?_
  refine ws (st_po (po_assign rfl) rfl rfl rfl ?_)
  refine s_nil ?_
  refine at_then_wp ?_
  refine r_seq ?_
  refine r_reg ?_
  refine ws (st_po (po_move rfl) rfl rfl rfl ?_)
  refine ws (st_po (po_move rfl) rfl rfl rfl ?_)
  refine ws (st_po (po_move rfl) rfl rfl rfl ?_)
  refine ws (st_call (co_fn rfl rfl) (helm_near s ok c k hc hk) (by infer_instance) rfl rfl rfl ?_)
  rintro v11 _ ⟨rfl, rfl⟩
  try dsimp only [List.cons_append, List.nil_append, HelmS.m, HelmS.p]
  refine ws (st_po (po_assign rfl) rfl rfl rfl ?_)
  refine s_nil ?_
  refine at_then_wp ?_
  refine r_seq ?_
  refine r_seq ?_
  refine r_reg ?_
  refine ws (st_po (po_move rfl) rfl rfl rfl ?_)
  refine ws (st_po (po_lt rfl rfl) rfl rfl rfl ?_)
  refine s_nil ?_
  refine at_then_wp ?_
  first | refine r_cond_not rfl ?_ ?_ | refine r_cond_dec rfl ?_ ?_ | refine r_cond rfl ?_ ?_
  · intro hn
    refine r_seq ?_
    refine r_ord [] _ [(0, 1), (1, 1), (2, 1), (3, 0), (4, 1), (5, 1), (7, 1), (8, 1), (9, 1), (10, 0), (11, 1), (12, 0), (13, 0), (6, 2), (14, 1), (15, 1)] fc_mixed (by kernel_rfl) (fun _ h => h) ?_
    refine o_fr rfl (po_move rfl) rfl rfl rfl ?_
    refine o_fr rfl (po_nil rfl) rfl rfl rfl ?_
    refine o_fr rfl (po_faddr rfl (by exact fc_field_91_1_3)) rfl rfl rfl ?_
    refine o_rd rfl (po_load rfl (by exact fc_flat_32) (by rfl)) (by first | exact fun _ h => h | exact ent) rfl rfl rfl ?_
    refine o_fr rfl (po_move rfl) rfl rfl rfl ?_
    refine o_fr rfl (po_move rfl) rfl rfl rfl ?_
    refine o_fr rfl (po_move rfl) rfl rfl rfl ?_
    refine o_fr rfl (po_nil rfl) rfl rfl rfl ?_
    refine o_fr rfl (po_faddr rfl (by exact fc_field_91_2_4)) rfl rfl rfl ?_
    refine o_rd rfl (po_load rfl (by exact fc_flat_35) (by rfl)) (by first | exact fun _ h => h | exact ent) rfl rfl rfl ?_
    refine o_fr rfl (po_move rfl) rfl rfl rfl ?_
    refine o_rd rfl (po_iaddr rfl rfl (by exact fc_slice_35_3_1) (by first | omega | (simp only [List.length_nil, List.length_cons, List.length_append, List.length_replicate, List.length_set, List.length_map, List.length_take, List.length_drop]; omega)) (by first | omega | (simp only [List.length_nil, List.length_cons, List.length_append, List.length_replicate, List.length_set, List.length_map, List.length_take, List.length_drop]; omega))) (by first | exact fun _ h => h | exact ent) rfl rfl rfl ?_
    refine o_rd rfl (po_load_sl rfl (List.getElem?_eq_getElem (by first | omega | (simp only [List.length_nil, List.length_cons, List.length_append, List.length_replicate, List.length_set, List.length_map, List.length_take, List.length_drop]; omega))) (by exact fc_flat_3) (by rfl)) (by first | exact fun _ h => h | exact ent) rfl rfl rfl ?_
    refine o_st rfl (st_call (co_fn rfl rfl) (seeds_Best s.lv s.l c k (by have := ok.ll; omega)) (by infer_instance) rfl rfl rfl ?_)
    rintro v20 _ ⟨rfl, rfl⟩
    try dsimp only [List.cons_append, List.nil_append, HelmS.m, HelmS.p]
    refine ⟨fun _ => (by first | exact fun _ h => h | exact ent), ?_⟩
    refine o_fr rfl (po_eq rfl rfl) rfl rfl rfl ?_
    refine o_fr rfl (po_assign rfl) rfl rfl rfl ?_
    refine o_nil ?_
    refine at_then_wp ?_
    refine r_ret ?_
    refine at_then_ret ?_
    refine at_ret1 rfl (rv_tmp rfl) ⟨_, ⟨by congr 1; refine decide_eq_decide.2 ?_; rw [ByN, if_pos hn, hdc], rfl⟩, ?_⟩
    try dsimp only [List.cons_append, List.nil_append, HelmS.m, HelmS.p]
    exact ent
  · intro hn
    have hin := (hst.2 (by omega)).1
    have hnl : stepN s.t.w s.t.h c k < s.t.c.length := by rw [hlen]; exact hin.2.2
    have hcn : gAt s.t.c (stepN s.t.w s.t.h c k) = s.t.c[(stepN s.t.w s.t.h c k).toNat]'(by omega) := gAt_get (by omega)
    have hdn : gAt s.d (stepN s.t.w s.t.h c k) = s.d[(stepN s.t.w s.t.h c k).toNat]'(by omega) := gAt_get (by omega)
    have hb1 := ok.bt _ (List.getElem_mem (show (stepN s.t.w s.t.h c k).toNat < s.t.c.length by omega))
    have hb2 := ok.dr _ (List.getElem_mem (show (stepN s.t.w s.t.h c k).toNat < s.d.length by omega))
    refine r_skip ?_
    refine at_then_wp ?_
    refine r_seq ?_
    refine r_ord [] _ [(0, 1), (1, 1), (2, 1), (3, 1), (4, 0), (5, 1), (6, 0), (7, 0), (8, 1), (9, 1), (10, 1), (11, 1), (12, 1), (13, 1), (14, 0), (15, 1), (16, 0), (17, 0), (18, 1), (19, 1), (20, 1), (21, 1), (22, 0), (23, 1), (24, 0), (25, 0), (26, 1), (27, 1), (28, 1), (29, 1), (30, 0), (31, 1), (32, 0), (33, 0), (34, 1), (35, 1), (36, 1)] fc_mixed (by kernel_rfl) (fun _ h => h) ?_
    refine o_fr rfl (po_move rfl) rfl rfl rfl ?_
    refine o_fr rfl (po_nil rfl) rfl rfl rfl ?_
    refine o_fr rfl (po_faddr rfl (by exact fc_field_91_0_0)) rfl rfl rfl ?_
    refine o_fr rfl (po_faddr rfl (by exact fc_field_41_2_2)) rfl rfl rfl ?_
    refine o_rd rfl (po_load rfl (by exact fc_flat_22) (by rfl)) (by first | exact fun _ h => h | exact ent) rfl rfl rfl ?_
    refine o_fr rfl (po_move rfl) rfl rfl rfl ?_
    refine o_rd rfl (po_iaddr rfl rfl (by exact fc_slice_22_5_1) (by first | omega | (simp only [List.length_nil, List.length_cons, List.length_append, List.length_replicate, List.length_set, List.length_map, List.length_take, List.length_drop]; omega)) (by first | omega | (simp only [List.length_nil, List.length_cons, List.length_append, List.length_replicate, List.length_set, List.length_map, List.length_take, List.length_drop]; omega))) (by first | exact fun _ h => h | exact ent) rfl rfl rfl ?_
    refine o_rd rfl (po_load_sl rfl (List.getElem?_eq_getElem (by first | omega | (simp only [List.length_nil, List.length_cons, List.length_append, List.length_replicate, List.length_set, List.length_map, List.length_take, List.length_drop]; omega))) (by exact fc_flat_5) (by rfl)) (by first | exact fun _ h => h | exact ent) rfl rfl rfl ?_
    refine o_fr rfl (po_ne rfl rfl) rfl rfl rfl ?_
    by_cases hw : s.t.c[(stepN s.t.w s.t.h c k).toNat]'(by omega) ≠ 255
    · skip
      refine o_fr rfl (po_bt (po_move rfl) (decide_eq_true hw)) rfl rfl rfl ?_
      refine o_fr rfl (po_move rfl) rfl rfl rfl ?_
      refine o_fr rfl (po_nil rfl) rfl rfl rfl ?_
      refine o_fr rfl (po_faddr rfl (by exact fc_field_91_0_0)) rfl rfl rfl ?_
      refine o_fr rfl (po_faddr rfl (by exact fc_field_41_2_2)) rfl rfl rfl ?_
      refine o_rd rfl (po_load rfl (by exact fc_flat_22) (by rfl)) (by first | exact fun _ h => h | exact ent) rfl rfl rfl ?_
      refine o_fr rfl (po_move rfl) rfl rfl rfl ?_
      refine o_rd rfl (po_iaddr rfl rfl (by exact fc_slice_22_5_1) (by first | omega | (simp only [List.length_nil, List.length_cons, List.length_append, List.length_replicate, List.length_set, List.length_map, List.length_take, List.length_drop]; omega)) (by first | omega | (simp only [List.length_nil, List.length_cons, List.length_append, List.length_replicate, List.length_set, List.length_map, List.length_take, List.length_drop]; omega))) (by first | exact fun _ h => h | exact ent) rfl rfl rfl ?_
      refine o_rd rfl (po_load_sl rfl (List.getElem?_eq_getElem (by first | omega | (simp only [List.length_nil, List.length_cons, List.length_append, List.length_replicate, List.length_set, List.length_map, List.length_take, List.length_drop]; omega))) (by exact fc_flat_5) (by rfl)) (by first | exact fun _ h => h | exact ent) rfl rfl rfl ?_
      refine o_fr rfl (po_conv_w rfl (by exact fc_int_5_u8) (by exact fc_int_3_i64) (wrap_i64 _ (by omega) (by omega))) rfl rfl rfl ?_
      refine o_fr rfl (po_move rfl) rfl rfl rfl ?_
      refine o_fr rfl (po_nil rfl) rfl rfl rfl ?_
      refine o_fr rfl (po_faddr rfl (by exact fc_field_91_2_4)) rfl rfl rfl ?_
      refine o_rd rfl (po_load rfl (by exact fc_flat_35) (by rfl)) (by first | exact fun _ h => h | exact ent) rfl rfl rfl ?_
      refine o_fr rfl (po_move rfl) rfl rfl rfl ?_
      refine o_rd rfl (po_iaddr rfl rfl (by exact fc_slice_35_3_1) (by first | omega | (simp only [List.length_nil, List.length_cons, List.length_append, List.length_replicate, List.length_set, List.length_map, List.length_take, List.length_drop]; omega)) (by first | omega | (simp only [List.length_nil, List.length_cons, List.length_append, List.length_replicate, List.length_set, List.length_map, List.length_take, List.length_drop]; omega))) (by first | exact fun _ h => h | exact ent) rfl rfl rfl ?_
      refine o_rd rfl (po_load_sl rfl (List.getElem?_eq_getElem (by first | omega | (simp only [List.length_nil, List.length_cons, List.length_append, List.length_replicate, List.length_set, List.length_map, List.length_take, List.length_drop]; omega))) (by exact fc_flat_3) (by rfl)) (by first | exact fun _ h => h | exact ent) rfl rfl rfl ?_
      refine o_fr rfl (po_add' rfl rfl (by omega) (by omega)) rfl rfl rfl ?_
      refine o_fr rfl (po_move rfl) rfl rfl rfl ?_
      refine o_fr rfl (po_nil rfl) rfl rfl rfl ?_
      refine o_fr rfl (po_faddr rfl (by exact fc_field_91_2_4)) rfl rfl rfl ?_
      refine o_rd rfl (po_load rfl (by exact fc_flat_35) (by rfl)) (by first | exact fun _ h => h | exact ent) rfl rfl rfl ?_
      refine o_fr rfl (po_move rfl) rfl rfl rfl ?_
      refine o_rd rfl (po_iaddr rfl rfl (by exact fc_slice_35_3_1) (by first | omega | (simp only [List.length_nil, List.length_cons, List.length_append, List.length_replicate, List.length_set, List.length_map, List.length_take, List.length_drop]; omega)) (by first | omega | (simp only [List.length_nil, List.length_cons, List.length_append, List.length_replicate, List.length_set, List.length_map, List.length_take, List.length_drop]; omega))) (by first | exact fun _ h => h | exact ent) rfl rfl rfl ?_
      refine o_rd rfl (po_load_sl rfl (List.getElem?_eq_getElem (by first | omega | (simp only [List.length_nil, List.length_cons, List.length_append, List.length_replicate, List.length_set, List.length_map, List.length_take, List.length_drop]; omega))) (by exact fc_flat_3) (by rfl)) (by first | exact fun _ h => h | exact ent) rfl rfl rfl ?_
      refine o_fr rfl (po_eq rfl rfl) rfl rfl rfl ?_
      refine o_fr rfl (po_pick_t rfl rfl) rfl rfl rfl ?_
      refine o_fr rfl (po_assign rfl) rfl rfl rfl ?_
      refine o_nil ?_
      refine at_then_wp ?_
      refine r_ret ?_
      refine at_ret1 rfl (rv_tmp rfl) ⟨_, ⟨by congr 1; refine decide_eq_decide.2 ?_; rw [ByN, if_neg hn, hdc, hcn, hdn]; exact ⟨fun e => ⟨hw, e⟩, fun e => e.2⟩, rfl⟩, ?_⟩
      try dsimp only [List.cons_append, List.nil_append, HelmS.m, HelmS.p]
      exact ent
    · skip
      refine o_fr rfl (po_bf (po_move rfl) (decide_eq_false hw)) rfl rfl rfl ?_
      refine o_no rfl rfl rfl rfl ?_
      refine o_no rfl rfl rfl rfl ?_
      refine o_no rfl rfl rfl rfl ?_
      refine o_no rfl rfl rfl rfl ?_
      refine o_nor rfl (by first | exact fun _ h => h | exact ent) rfl rfl rfl ?_
      refine o_no rfl rfl rfl rfl ?_
      refine o_nor rfl (by first | exact fun _ h => h | exact ent) rfl rfl rfl ?_
      refine o_nor rfl (by first | exact fun _ h => h | exact ent) rfl rfl rfl ?_
      refine o_no rfl rfl rfl rfl ?_
      refine o_no rfl rfl rfl rfl ?_
      refine o_no rfl rfl rfl rfl ?_
      refine o_no rfl rfl rfl rfl ?_
      refine o_nor rfl (by first | exact fun _ h => h | exact ent) rfl rfl rfl ?_
      refine o_no rfl rfl rfl rfl ?_
      refine o_nor rfl (by first | exact fun _ h => h | exact ent) rfl rfl rfl ?_
      refine o_nor rfl (by first | exact fun _ h => h | exact ent) rfl rfl rfl ?_
      refine o_no rfl rfl rfl rfl ?_
      refine o_no rfl rfl rfl rfl ?_
      refine o_no rfl rfl rfl rfl ?_
      refine o_no rfl rfl rfl rfl ?_
      refine o_nor rfl (by first | exact fun _ h => h | exact ent) rfl rfl rfl ?_
      refine o_no rfl rfl rfl rfl ?_
      refine o_nor rfl (by first | exact fun _ h => h | exact ent) rfl rfl rfl ?_
      refine o_nor rfl (by first | exact fun _ h => h | exact ent) rfl rfl rfl ?_
      refine o_no rfl rfl rfl rfl ?_
      refine o_fr rfl (po_pick_f rfl rfl) rfl rfl rfl ?_
      refine o_fr rfl (po_assign rfl) rfl rfl rfl ?_
      refine o_nil ?_
      refine at_then_wp ?_
      refine r_ret ?_
      refine at_ret1 rfl (rv_tmp rfl) ⟨_, ⟨by rw [decide_eq_false (by rw [ByN, if_neg hn, hcn]; exact fun e => hw e.1)], rfl⟩, ?_⟩
      try dsimp only [List.cons_append, List.nil_append, HelmS.m, HelmS.p]
      exact ent

def firstN (t : Tile) (l : List Seed) (d : List Int) (c : Int) : Int := if ByN t l d c 0 then 0 else if ByN t l d c 1 then 1 else if ByN t l d c 2 then 2 else if ByN t l d c 3 then 3 else 5
theorem helm_first (s : HelmS) (ok : HelmOk s) (c : Int) (hc : 0 ≤ c ∧ c < s.t.c.length) : Spec PP 87 #[s.p, .int .i64 c, .int .i64 0] s.m (fun v M => v = .int .i64 (firstN s.t s.l s.d c) ∧ M = s.m) := by
  refine spec_of (Go.Proofs.Tryz.func87) rfl rfl rfl (by exact fc_enters_87) ?_
  intro g F
  try dsimp only [List.cons_append, List.nil_append, HelmS.m, HelmS.p]
  refine r_seq ?_
  refine r_reg ?_
  refine ws (st_po (po_assign rfl) rfl rfl rfl ?_)
  refine s_nil ?_
  refine at_then_wp ?_
  refine r_seq ?_
  refine r_seq ?_
  refine r_reg ?_
  refine ws (st_po (po_move rfl) rfl rfl rfl ?_)
  refine s_nil ?_
  refine at_then_wp ?_
  refine r_block ?_
  refine r_seq ?_
  refine r_block ?_
  refine r_seq ?_
  refine r_block ?_
  refine r_seq ?_
  refine r_block ?_
  refine r_seq ?_
  refine r_block ?_
  refine r_seq ?_
  refine r_seq ?_
  refine r_seq ?_
  refine r_reg ?_
  refine ws (st_po (po_eq rfl rfl) rfl rfl rfl ?_)
  refine ws (st_po (po_assign rfl) rfl rfl rfl ?_)
  refine s_nil ?_
  refine at_then_wp ?_
  first | refine r_dec_t rfl (rfl) ?_ | refine r_nd_t rfl (rfl) ?_ | refine r_cond_t rfl (rfl) ?_
  refine r_exit ?_
  refine at_then_exit ?_
  refine at_then_exit ?_
  refine at_block_here ?_
  refine at_then_wp ?_
  refine r_seq ?_
  refine r_reg ?_
  refine ws (st_po (po_move rfl) rfl rfl rfl ?_)
  refine ws (st_po (po_move rfl) rfl rfl rfl ?_)
  refine ws (st_call (co_fn rfl rfl) (helm_by s ok c 0 hc (by decide)) (by infer_instance) rfl rfl rfl ?_)
  rintro v18 _ ⟨rfl, rfl⟩
  try dsimp only [List.cons_append, List.nil_append, HelmS.m, HelmS.p]
  refine s_nil ?_
  refine at_then_wp ?_
  first | refine r_cond_not rfl ?_ ?_ | refine r_cond_dec rfl ?_ ?_ | refine r_cond rfl ?_ ?_
  · intro h0
    refine r_seq ?_
    refine r_reg ?_
    refine ws (st_po (po_assign rfl) rfl rfl rfl ?_)
    refine s_nil ?_
    refine at_then_wp ?_
    refine r_ret ?_
    refine at_block_ret ?_
    refine at_then_ret ?_
    refine at_block_ret ?_
    refine at_then_ret ?_
    refine at_block_ret ?_
    refine at_then_ret ?_
    refine at_block_ret ?_
    refine at_then_ret ?_
    refine at_ret1 rfl (rv_tmp rfl) ⟨_, ⟨by rw [firstN, if_pos h0], rfl⟩, ?_⟩
    try dsimp only [List.cons_append, List.nil_append, HelmS.m, HelmS.p]
    exact ent
  · intro h0
    refine r_skip ?_
    refine at_block_normal ?_
    refine at_then_wp ?_
    refine r_seq ?_
    refine r_reg ?_
    refine ws (st_po (po_move rfl) rfl rfl rfl ?_)
    refine ws (st_po (po_move rfl) rfl rfl rfl ?_)
    refine ws (st_call (co_fn rfl rfl) (helm_by s ok c 1 hc (by decide)) (by infer_instance) rfl rfl rfl ?_)
    rintro v21 _ ⟨rfl, rfl⟩
    try dsimp only [List.cons_append, List.nil_append, HelmS.m, HelmS.p]
    refine s_nil ?_
    refine at_then_wp ?_
    first | refine r_cond_not rfl ?_ ?_ | refine r_cond_dec rfl ?_ ?_ | refine r_cond rfl ?_ ?_
    · intro h1
      refine r_seq ?_
      refine r_reg ?_
      refine ws (st_po (po_assign rfl) rfl rfl rfl ?_)
      refine s_nil ?_
      refine at_then_wp ?_
      refine r_ret ?_
      refine at_block_ret ?_
      refine at_then_ret ?_
      refine at_block_ret ?_
      refine at_then_ret ?_
      refine at_block_ret ?_
      refine at_then_ret ?_
      refine at_ret1 rfl (rv_tmp rfl) ⟨_, ⟨by rw [firstN, if_neg h0, if_pos h1], rfl⟩, ?_⟩
      try dsimp only [List.cons_append, List.nil_append, HelmS.m, HelmS.p]
      exact ent
    · intro h1
      refine r_skip ?_
      refine at_block_normal ?_
      refine at_then_wp ?_
      refine r_seq ?_
      refine r_reg ?_
      refine ws (st_po (po_move rfl) rfl rfl rfl ?_)
      refine ws (st_po (po_move rfl) rfl rfl rfl ?_)
      refine ws (st_call (co_fn rfl rfl) (helm_by s ok c 2 hc (by decide)) (by infer_instance) rfl rfl rfl ?_)
      rintro v24 _ ⟨rfl, rfl⟩
      try dsimp only [List.cons_append, List.nil_append, HelmS.m, HelmS.p]
      refine s_nil ?_
      refine at_then_wp ?_
      first | refine r_cond_not rfl ?_ ?_ | refine r_cond_dec rfl ?_ ?_ | refine r_cond rfl ?_ ?_
      · intro h2
        refine r_seq ?_
        refine r_reg ?_
        refine ws (st_po (po_assign rfl) rfl rfl rfl ?_)
        refine s_nil ?_
        refine at_then_wp ?_
        refine r_ret ?_
        refine at_block_ret ?_
        refine at_then_ret ?_
        refine at_block_ret ?_
        refine at_then_ret ?_
        refine at_ret1 rfl (rv_tmp rfl) ⟨_, ⟨by rw [firstN, if_neg h0, if_neg h1, if_pos h2], rfl⟩, ?_⟩
        try dsimp only [List.cons_append, List.nil_append, HelmS.m, HelmS.p]
        exact ent
      · intro h2
        refine r_skip ?_
        refine at_block_normal ?_
        refine at_then_wp ?_
        refine r_seq ?_
        refine r_seq ?_
        refine r_reg ?_
        refine ws (st_po (po_move rfl) rfl rfl rfl ?_)
        refine ws (st_po (po_move rfl) rfl rfl rfl ?_)
        refine ws (st_call (co_fn rfl rfl) (helm_by s ok c 3 hc (by decide)) (by infer_instance) rfl rfl rfl ?_)
        rintro v27 _ ⟨rfl, rfl⟩
        try dsimp only [List.cons_append, List.nil_append, HelmS.m, HelmS.p]
        refine s_nil ?_
        refine at_then_wp ?_
        first | refine r_cond_not rfl ?_ ?_ | refine r_cond_dec rfl ?_ ?_ | refine r_cond rfl ?_ ?_
        · intro h3
          refine r_seq ?_
          refine r_reg ?_
          refine ws (st_po (po_assign rfl) rfl rfl rfl ?_)
          refine s_nil ?_
          refine at_then_wp ?_
          refine r_ret ?_
          refine at_then_ret ?_
          refine at_block_ret ?_
          refine at_then_ret ?_
          refine at_ret1 rfl (rv_tmp rfl) ⟨_, ⟨by rw [firstN, if_neg h0, if_neg h1, if_neg h2, if_pos h3], rfl⟩, ?_⟩
          try dsimp only [List.cons_append, List.nil_append, HelmS.m, HelmS.p]
          exact ent
        · intro h3
          refine r_skip ?_
          refine at_then_wp ?_
          refine r_exit ?_
          refine at_block_here ?_
          refine at_then_wp ?_
          refine r_seq ?_
          refine r_reg ?_
          refine ws (st_po (po_assign rfl) rfl rfl rfl ?_)
          refine s_nil ?_
          refine at_then_wp ?_
          refine r_ret ?_
          refine at_ret1 rfl (rv_tmp rfl) ⟨_, ⟨by rw [firstN, if_neg h0, if_neg h1, if_neg h2, if_neg h3], rfl⟩, ?_⟩
          try dsimp only [List.cons_append, List.nil_append, HelmS.m, HelmS.p]
          exact ent

/-- 10.1: a local's direction -/
def dirN (t : Tile) (l : List Seed) (d : List Int) (c : Int) : Int := if gAt d c = 1099511627776 then 5 else if gAt d c = bestN l c 4 then 4 else firstN t l d c
theorem helm_dir (s : HelmS) (ok : HelmOk s) (c : Int) (hc : 0 ≤ c ∧ c < s.t.c.length) : Spec PP 56 #[s.p, .int .i64 c] s.m (fun v M => v = .int .i64 (dirN s.t s.l s.d c) ∧ M = s.m) := by
  have hdl := ok.dl
  have hdc : gAt s.d c = s.d[c.toNat]'(by omega) := gAt_get (by omega)
  refine spec_of (Go.Proofs.Tryz.func56) rfl rfl rfl (by exact fc_enters_56) ?_
  intro g F
  try dsimp only [List.cons_append, List.nil_append, HelmS.m, HelmS.p]
  refine r_seq ?_
  refine r_reg ?_
  refine ws (st_po (po_assign rfl) rfl rfl rfl ?_)
  refine s_nil ?_
  refine at_then_wp ?_
  refine r_seq ?_
  refine r_seq ?_
  refine r_reg ?_
  refine ws (st_po (po_move rfl) rfl rfl rfl ?_)
  refine ws (st_po (po_nil rfl) rfl rfl rfl ?_)
  refine ws (st_po (po_faddr rfl (by exact fc_field_91_2_4)) rfl rfl rfl ?_)
  refine ws (st_po (po_load rfl (by exact fc_flat_35) (by rfl)) rfl rfl rfl ?_)
  refine ws (st_po (po_move rfl) rfl rfl rfl ?_)
  refine ws (st_po (po_iaddr rfl rfl (by exact fc_slice_35_3_1) (by first | omega | (simp only [List.length_nil, List.length_cons, List.length_append, List.length_replicate, List.length_set, List.length_map, List.length_take, List.length_drop]; omega)) (by first | omega | (simp only [List.length_nil, List.length_cons, List.length_append, List.length_replicate, List.length_set, List.length_map, List.length_take, List.length_drop]; omega))) rfl rfl rfl ?_)
  refine ws (st_po (po_load_sl rfl (List.getElem?_eq_getElem (by first | omega | (simp only [List.length_nil, List.length_cons, List.length_append, List.length_replicate, List.length_set, List.length_map, List.length_take, List.length_drop]; omega))) (by exact fc_flat_3) (by rfl)) rfl rfl rfl ?_)
  refine s_nil ?_
  refine at_then_wp ?_
  refine r_block ?_
  refine r_seq ?_
  refine r_reg ?_
  refine ws (st_po (po_eq rfl rfl) rfl rfl rfl ?_)
  refine ws (st_po (po_assign rfl) rfl rfl rfl ?_)
  refine s_nil ?_
  refine at_then_wp ?_
  first | refine r_cond_not rfl ?_ ?_ | refine r_cond_dec rfl ?_ ?_ | refine r_cond rfl ?_ ?_
  · intro h0
    refine r_seq ?_
    refine r_reg ?_
    refine ws (st_po (po_assign rfl) rfl rfl rfl ?_)
    refine s_nil ?_
    refine at_then_wp ?_
    refine r_ret ?_
    refine at_block_ret ?_
    refine at_then_ret ?_
    refine at_ret1 rfl (rv_tmp rfl) ⟨_, ⟨by rw [dirN, hdc, if_pos h0], rfl⟩, ?_⟩
    try dsimp only [List.cons_append, List.nil_append, HelmS.m, HelmS.p]
    exact ent
  · intro h0
    refine r_seq ?_
    refine r_reg ?_
    refine ws (st_po (po_move rfl) rfl rfl rfl ?_)
    refine ws (st_po (po_nil rfl) rfl rfl rfl ?_)
    refine ws (st_po (po_faddr rfl (by exact fc_field_91_1_3)) rfl rfl rfl ?_)
    refine ws (st_po (po_load rfl (by exact fc_flat_32) (by rfl)) rfl rfl rfl ?_)
    refine ws (st_po (po_move rfl) rfl rfl rfl ?_)
    refine ws (st_call (co_fn rfl rfl) (seeds_Best s.lv s.l c 4 (by have := ok.ll; omega)) (by infer_instance) rfl rfl rfl ?_)
    rintro v20 _ ⟨rfl, rfl⟩
    try dsimp only [List.cons_append, List.nil_append, HelmS.m, HelmS.p]
    refine ws (st_po (po_eq rfl rfl) rfl rfl rfl ?_)
    refine ws (st_po (po_assign rfl) rfl rfl rfl ?_)
    refine s_nil ?_
    refine at_then_wp ?_
    first | refine r_cond_not rfl ?_ ?_ | refine r_cond_dec rfl ?_ ?_ | refine r_cond rfl ?_ ?_
    · intro h1
      refine r_seq ?_
      refine r_reg ?_
      refine ws (st_po (po_assign rfl) rfl rfl rfl ?_)
      refine s_nil ?_
      refine at_then_wp ?_
      refine r_ret ?_
      refine at_block_ret ?_
      refine at_then_ret ?_
      refine at_ret1 rfl (rv_tmp rfl) ⟨_, ⟨by rw [dirN, hdc, if_neg h0, if_pos h1], rfl⟩, ?_⟩
      try dsimp only [List.cons_append, List.nil_append, HelmS.m, HelmS.p]
      exact ent
    · intro h1
      refine r_skip ?_
      refine at_block_normal ?_
      refine at_then_wp ?_
      refine r_seq ?_
      refine r_reg ?_
      refine ws (st_po (po_move rfl) rfl rfl rfl ?_)
      refine ws (st_po (po_move rfl) rfl rfl rfl ?_)
      refine ws (st_call (co_fn rfl rfl) (helm_first s ok c hc) (by infer_instance) rfl rfl rfl ?_)
      rintro v24 _ ⟨rfl, rfl⟩
      try dsimp only [List.cons_append, List.nil_append, HelmS.m, HelmS.p]
      refine ws (st_po (po_assign rfl) rfl rfl rfl ?_)
      refine s_nil ?_
      refine at_then_wp ?_
      refine r_ret ?_
      refine at_ret1 rfl (rv_tmp rfl) ⟨_, ⟨by rw [dirN, hdc, if_neg h0, if_neg h1], rfl⟩, ?_⟩
      try dsimp only [List.cons_append, List.nil_append, HelmS.m, HelmS.p]
      exact ent

def dirsTo (t : Tile) (l : List Seed) (d : List Int) (k : Nat) : List Int := (List.range k).map fun (i : Nat) => dirN t l d i
theorem dist_rng {w h : Int} {C : List Int} {src : Int → Int → Prop} {d : List Int} (k : IsDist w h C src (dF d)) : ∀ x ∈ d, 0 ≤ x ∧ x ≤ 1099511627776 := by
  intro x hx
  obtain ⟨i, hi, rfl⟩ := List.getElem_of_mem hx
  have := k.rng (i : Int)
  rw [dF, if_pos (by omega), gAt_nat hi] at this
  have hI : INF = 1099511627776 := rfl
  omega
theorem steer_Field (tc lv : Value) (t : Tile) (l : List Seed) (hm : MayS t l) (hb : ∀ x ∈ t.c, 1 ≤ x ∧ x ≤ 255) (hn : l.Nodup) (hl : l.length ≤ 2^20) :
    Spec PP 24 #[tileV tc t, lv] [Sl eB tc t.c, Sl eS lv l]
      (fun v M => ∃ dv d rv, v = .tuple #[.agg #[dv, rv], .int .i64 0] ∧ M = [Sl eB tc t.c, Sl eS lv l, Sl eI dv d, Sl eI rv (dirsTo t l d t.c.length)] ∧ d.length = t.c.length ∧ IsDist t.w t.h t.c (srcS l) (dF d)) := by
  refine spec_of (Go.Proofs.Tryz.func24) rfl rfl rfl (by exact fc_enters_24) ?_
  intro g F
  try dsimp only [List.cons_append, List.nil_append, HelmS.m, HelmS.p]
  refine r_seq ?_
  refine r_reg ?_
  refine ws (st_xo (xo_box rfl rfl) rfl rfl rfl ?_)
  rintro _ _ ⟨b2, rfl, rfl⟩
  refine ws (st_xo (xo_alloc (by exact fc_zero_54)) rfl rfl rfl ?_)
  rintro _ _ ⟨b4, rfl, rfl⟩
  refine ws (st_po (po_assign rfl) rfl rfl rfl ?_)
  refine s_nil ?_
  refine at_then_wp ?_
  refine r_seq ?_
  refine r_reg ?_
  refine ws (st_po (po_loada rfl (by exact fc_agg_41_3) (by rfl)) rfl rfl rfl ?_)
  refine ws (st_po (po_move rfl) rfl rfl rfl ?_)
  refine ws (st_call (co_fn rfl rfl) (sweep_Spread tc lv t l hm hb hn hl) (by infer_instance) rfl rfl rfl ?_)
  rintro v14 _ ⟨dv, d, rfl, rfl, hdl, hd⟩
  try dsimp only [List.cons_append, List.nil_append, HelmS.m, HelmS.p]
  refine ws (st_po (po_move rfl) rfl rfl rfl ?_)
  refine ws (st_po (po_extract rfl rfl) rfl rfl rfl ?_)
  refine ws (st_po (po_extract rfl rfl) rfl rfl rfl ?_)
  refine ws (st_po (po_assign rfl) rfl rfl rfl ?_)
  refine ws (st_po (po_assign rfl) rfl rfl rfl ?_)
  refine s_nil ?_
  refine at_then_wp ?_
  refine r_seq ?_
  refine r_seq ?_
  refine r_reg ?_
  refine ws (st_po (po_move rfl) rfl rfl rfl ?_)
  refine ws (st_po (po_ne rfl rfl) rfl rfl rfl ?_)
  refine s_nil ?_
  refine at_then_wp ?_
  first | refine r_dec_f rfl (by simp) ?_ | refine r_nd_f rfl (by simp) ?_ | refine r_cond_f rfl (by simp) ?_
  refine r_skip ?_
  refine at_then_wp ?_
  refine r_seq ?_
  refine r_reg ?_
  refine ws (st_po (po_loada rfl (by exact fc_agg_41_3) (by rfl)) rfl rfl rfl ?_)
  refine ws (st_po (po_move rfl) rfl rfl rfl ?_)
  refine ws (st_po (po_move rfl) rfl rfl rfl ?_)
  refine ws (st_po (po_build1 rfl (by exact fc_zero_91) (by exact fc_places_91_0_1_2) (by exact fc_info_91) rfl) rfl rfl rfl ?_)
  refine ws (st_xo (xo_box rfl rfl) rfl rfl rfl ?_)
  rintro _ _ ⟨b25, rfl, rfl⟩
  refine ws (st_po (po_assign rfl) rfl rfl rfl ?_)
  refine s_nil ?_
  refine at_then_wp ?_
  refine r_seq ?_
  refine r_reg ?_
  refine ws (st_po (po_move rfl) rfl rfl rfl ?_)
  refine ws (st_po (po_build1 rfl (by exact fc_zero_54) (by exact fc_places_54_0) (by exact fc_info_54) rfl) rfl rfl rfl ?_)
  refine ws (st_xo (xo_alloc (by exact fc_zero_54)) rfl rfl rfl ?_)
  rintro _ _ ⟨b9, rfl, rfl⟩
  refine ws (st_so (so_storea1 rfl rfl (by exact fc_agg_54_2) rfl rfl) rfl rfl ?_)
  refine s_nil ?_
  refine at_then_wp ?_
  refine r_seq ?_
  refine r_seq ?_
  have ok : HelmOk ⟨b25, t, tc, lv, l, dv, d⟩ := ⟨hm.1, hb, hdl, dist_rng hd, hl⟩
  have hsm : t.c.length ≤ 256 := ok.big.2.2
  refine r_reg ?_
  refine ws (st_po (po_move rfl) rfl rfl rfl ?_)
  refine ws (st_po (po_len rfl (by exact fc_slice_35_3_1)) rfl rfl rfl ?_)
  refine ws (st_po (po_move rfl) rfl rfl rfl ?_)
  refine s_nil ?_
  refine at_then_wp ?_
  refine r_block ?_
  refine r_loop (S := Nat × Value × List Int) (fun ⟨k, rv, xs⟩ => [(30, .int .i64 k)]) [(4, _), (8, _), (9, _), (29, _)] (fun ⟨k, rv, xs⟩ => [Blk b9 54 [dv, rv], Blk b25 91 [.int .i64 t.w, .int .i64 t.h, tc, lv, dv], Sl eB tc t.c, Sl eS lv l, Sl eI dv d, Sl eI rv xs, Blk b4 54 [.slice none 0 0, .slice none 0 0], F]) (fun ⟨k, rv, xs⟩ => k ≤ d.length ∧ xs = dirsTo t l d k) (fun ⟨k, rv, xs⟩ => d.length - k) ((0, .slice none 0 0, [])) (And.intro rfl (And.intro rfl (And.intro rfl (And.intro rfl (trivial))))) (And.intro rfl (trivial)) (⟨by omega, rfl⟩) ent ?_
  rintro ⟨k, rv, xs⟩ ⟨hk, hxs⟩
  try dsimp only [List.cons_append, List.nil_append, HelmS.m, HelmS.p]
  have hxl : xs.length = k := by rw [hxs]; simp [dirsTo]
  refine r_seq ?_
  refine r_reg ?_
  refine ws (st_po (po_lt rfl rfl) rfl rfl rfl ?_)
  refine s_nil ?_
  refine at_then_wp ?_
  refine r_seq ?_
  first | refine r_cond_not rfl ?_ ?_ | refine r_cond_dec rfl ?_ ?_ | refine r_cond rfl ?_ ?_
  · intro hlt
    refine r_skip ?_
    refine at_then_wp ?_
    refine r_seq ?_
    refine r_block ?_
    refine r_seq ?_
    refine r_reg ?_
    refine ws (st_po (po_move rfl) rfl rfl rfl ?_)
    refine ws (st_po (po_assign rfl) rfl rfl rfl ?_)
    refine s_nil ?_
    refine at_then_wp ?_
    refine r_ord [6, 8] _ [(0, 1), (1, 0), (2, 1), (3, 1), (4, 2), (5, 2), (6, 2), (7, 1), (8, 2)] fc_mixed (by kernel_rfl) (fun _ h => h) ?_
    refine o_fr rfl (po_faddr rfl (by exact fc_field_54_1_1)) rfl rfl rfl ?_
    refine o_rd rfl (po_load rfl (by exact fc_flat_35) (by rfl)) (by first | exact fun _ h => h | exact ent) rfl rfl rfl ?_
    refine o_fr rfl (po_move rfl) rfl rfl rfl ?_
    refine o_fr rfl (po_move rfl) rfl rfl rfl ?_
    refine o_st rfl (st_call (co_fn rfl rfl) (helm_dir ⟨b25, t, tc, lv, l, dv, d⟩ ok k (by rw [← hdl]; exact ⟨by omega, hlt⟩)) (by infer_instance) rfl rfl rfl ?_)
    rintro v37 _ ⟨rfl, rfl⟩
    try dsimp only [List.cons_append, List.nil_append, HelmS.m, HelmS.p]
    refine ⟨fun _ => (by first | exact fun _ h => h | exact ent), ?_⟩
    refine o_st rfl (st_xo (xo_bslice eI [_] rfl (by exact fc_slice_35_3_1) (by exact fc_elem_3_1_8) ⟨rfl, rfl, trivial⟩ rfl (by decide)) rfl rfl rfl ?_)
    rintro v38 _ rfl
    refine ⟨fun _ => (by first | exact fun _ h => h | exact ent), ?_⟩
    refine o_st rfl (st_xo (xo_append rfl rfl (by exact fc_slice_35_3_1) (by exact fc_slice_35_3_1) (by exact fc_elem_3_1_8) (by first | omega | (simp only [List.length_nil, List.length_cons, List.length_append, List.length_replicate, List.length_set, List.length_map, List.length_take, List.length_drop]; omega)) (by first | omega | (simp only [List.length_nil, List.length_cons, List.length_append, List.length_replicate, List.length_set, List.length_map, List.length_take, List.length_drop]; omega))) rfl rfl rfl ?_)
    rintro v39 _ rfl
    refine ⟨fun h => late_no h (by kernel_rfl), ?_⟩
    refine o_fr rfl (po_faddr rfl (by exact fc_field_54_1_1)) rfl rfl rfl ?_
    refine o_st rfl (st_so (so_store1 rfl rfl (by exact fc_flat_35) rfl) rfl rfl ?_)
    refine ⟨fun h => late_no h (by kernel_rfl), ?_⟩
    refine o_nil ?_
    refine at_block_normal ?_
    refine at_then_wp ?_
    refine r_reg ?_
    refine ws (st_po (po_add' rfl rfl (by omega) (by omega)) rfl rfl rfl ?_)
    refine ws (st_po (po_move rfl) rfl rfl rfl ?_)
    refine s_nil ?_
    exact at_again ((k + 1, v39, xs ++ [dirN t l d k])) (And.intro rfl (trivial)) (And.intro rfl (And.intro rfl (And.intro rfl (And.intro rfl (trivial))))) (⟨by omega, by rw [hxs, dirsTo, dirsTo, rng_succ]⟩) (by omega) ent
  · intro hlt
    refine r_exit ?_
    refine at_then_exit ?_
    refine at_then_exit ?_
    refine at_block_here ?_
    refine at_then_wp ?_
    refine r_seq ?_
    refine r_reg ?_
    refine ws (st_po (po_loada rfl (by exact fc_agg_54_2) (by rfl)) rfl rfl rfl ?_)
    refine ws (st_so (so_storea1 rfl rfl (by exact fc_agg_54_2) rfl rfl) rfl rfl ?_)
    refine ws (st_po (po_assign rfl) rfl rfl rfl ?_)
    refine s_nil ?_
    refine at_then_wp ?_
    refine r_ret ?_
    have hke : xs = dirsTo t l d t.c.length := by rw [hxs, ← hdl, show k = d.length by omega]
    subst hke
    refine at_ret2 rfl (rv_cella rfl (by exact fc_agg_54_2) (by rfl)) (rv_tmp rfl) ⟨_, ⟨dv, d, rv, rfl, rfl, hdl, hd⟩, ?_⟩
    try dsimp only [List.cons_append, List.nil_append, HelmS.m, HelmS.p]
    exact ent
end Hd
end
section
namespace Hd
set_option maxRecDepth 100000
open Go

/-- open locals of a tile, rising -/
structure LocsOk (t : Tile) (l : List Int) : Prop where
  may : MayT t
  bt : ∀ x ∈ t.c, 1 ≤ x ∧ x ≤ 255
  op : ∀ x ∈ l, Opn t.c x
  up : Rising l
theorem LocsOk.small {t : Tile} {l : List Int} (k : LocsOk t l) : t.c.length ≤ 256 := by
  have h1 := k.may.1
  have h2 := k.may.2.1
  unfold Sized at h1 h2
  have hmul : t.w * t.h ≤ 16 * 16 := Int.mul_le_mul h1.2 h2.2 (by omega) (by decide)
  have := k.may.2.2.1
  omega
theorem rising_len {l : List Int} (h : Rising l) {n : Nat} (hb : ∀ x ∈ l, 0 ≤ x ∧ x < (n : Int)) : l.length ≤ n := by
  have key : ∀ i : Nat, (hi : i < l.length) → (i : Int) ≤ l[i] := by
    intro i
    induction i with
    | zero => intro hi; exact (hb _ (List.getElem_mem hi)).1
    | succ i ih =>
      intro hi
      have := ih (by omega)
      have := h i (i + 1) (by omega) hi (by omega)
      omega
  rcases Nat.lt_or_ge n l.length with e | e
  · have h1 := key n e
    have h2 := (hb _ (List.getElem_mem e)).2
    omega
  · exact e

theorem table_may (tc lv : Value) (t : Tile) (l : List Int) (ok : LocsOk t l) : Spec PP 145 #[tileV tc t, lv] [Sl eB tc t.c, Sl eI lv l] (fun v M => v = .bool true ∧ M = [Sl eB tc t.c, Sl eI lv l]) := by
  have hsm := ok.small
  have hll := rising_len ok.up (n := t.c.length) (fun x hx => ⟨(ok.op x hx).1, (ok.op x hx).2.1⟩)
  refine spec_of (Go.Proofs.Tryz.func145) rfl rfl rfl (by exact fc_enters_145) ?_
  intro g F
  try dsimp only [List.cons_append, List.nil_append]
  refine r_seq ?_
  refine r_reg ?_
  refine ws (st_xo (xo_box rfl rfl) rfl rfl rfl ?_)
  rintro _ _ ⟨b2, rfl, rfl⟩
  refine ws (st_po (po_assign rfl) rfl rfl rfl ?_)
  refine s_nil ?_
  refine at_then_wp ?_
  refine r_seq ?_
  refine r_seq ?_
  refine r_reg ?_
  refine ws (st_po (po_move rfl) rfl rfl rfl ?_)
  refine ws (st_po (po_len rfl (by exact fc_slice_35_3_1)) rfl rfl rfl ?_)
  refine ws (st_po (po_move rfl) rfl rfl rfl ?_)
  refine s_nil ?_
  refine at_then_wp ?_
  refine r_block ?_
  refine r_loop (S := Nat) (fun k => [(10, .int .i64 k)]) [(1, _), (2, _), (8, _), (9, _)] (fun k => [Sl eI lv l, Blk b2 41 [.int .i64 t.w, .int .i64 t.h, tc], Sl eB tc t.c, F]) (fun k => k ≤ l.length) (fun k => l.length - k) (0) (And.intro rfl (And.intro rfl (And.intro rfl (And.intro rfl (trivial))))) (And.intro rfl (trivial)) (by omega) ent ?_
  rintro k hk
  try dsimp only [List.cons_append, List.nil_append]
  refine r_seq ?_
  refine r_reg ?_
  refine ws (st_po (po_lt rfl rfl) rfl rfl rfl ?_)
  refine s_nil ?_
  refine at_then_wp ?_
  refine r_seq ?_
  first | refine r_cond_not rfl ?_ ?_ | refine r_cond_dec rfl ?_ ?_ | refine r_cond rfl ?_ ?_
  · intro hlt
    have hkl : k < l.length := by omega
    have hop := ok.op _ (List.getElem_mem hkl)
    have hat : tileAt t l[k] = gAt t.c l[k] := by rw [tileAt, if_pos ⟨hop.1, hop.2.1, ok.may⟩]
    have hbt := ok.bt _ (List.getElem_mem (show l[k].toNat < t.c.length by have := hop.1; have := hop.2.1; omega))
    rw [← gAt_get, ← hat] at hbt
    refine r_skip ?_
    refine at_then_wp ?_
    refine r_seq ?_
    refine r_block ?_
    refine r_seq ?_
    refine r_reg ?_
    refine ws (st_po (po_move rfl) rfl rfl rfl ?_)
    refine ws (st_po (po_iaddr rfl rfl (by exact fc_slice_35_3_1) (by first | omega | (simp only [List.length_nil, List.length_cons, List.length_append, List.length_replicate, List.length_set, List.length_map, List.length_take, List.length_drop]; omega)) (by first | omega | (simp only [List.length_nil, List.length_cons, List.length_append, List.length_replicate, List.length_set, List.length_map, List.length_take, List.length_drop]; omega))) rfl rfl rfl ?_)
    refine ws (st_po (po_load_sl rfl (List.getElem?_eq_getElem (by first | omega | (simp only [List.length_nil, List.length_cons, List.length_append, List.length_replicate, List.length_set, List.length_map, List.length_take, List.length_drop]; omega))) (by exact fc_flat_3) (by rfl)) rfl rfl rfl ?_)
    refine ws (st_po (po_assign rfl) rfl rfl rfl ?_)
    refine ws (st_po (po_assign rfl) rfl rfl rfl ?_)
    refine s_nil ?_
    refine at_then_wp ?_
    refine r_seq ?_
    refine r_reg ?_
    refine ws (st_po (po_loada rfl (by exact fc_agg_41_3) (by rfl)) rfl rfl rfl ?_)
    refine ws (st_po (po_move rfl) rfl rfl rfl ?_)
    refine ws (st_call (co_fn rfl rfl) (tile_At tc t (l[k]) (by omega) (fun x hx => by have := ok.bt x hx; omega)) (by infer_instance) rfl rfl rfl ?_)
    rintro v17 _ ⟨rfl, rfl⟩
    try dsimp only [List.cons_append, List.nil_append]
    refine ws (st_po (po_assign rfl) rfl rfl rfl ?_)
    refine s_nil ?_
    refine at_then_wp ?_
    refine r_seq ?_
    refine r_reg ?_
    refine ws (st_po (po_move rfl) rfl rfl rfl ?_)
    refine ws (st_po (po_eq rfl rfl) rfl rfl rfl ?_)
    refine ws (st_po (po_bf (po_move rfl) (decide_eq_false (by omega))) rfl rfl rfl ?_)
    refine ws (st_po (po_move rfl) rfl rfl rfl ?_)
    refine ws (st_po (po_eq rfl rfl) rfl rfl rfl ?_)
    refine ws (st_po (po_pick_f rfl rfl) rfl rfl rfl ?_)
    refine ws (st_po (po_bf (po_move rfl) (decide_eq_false (by rw [hat]; exact hop.2.2))) rfl rfl rfl ?_)
    refine ws (st_po (po_move rfl) rfl rfl rfl ?_)
    refine ws (st_po (po_gt rfl rfl) rfl rfl rfl ?_)
    by_cases h0 : (0 : Int) < k
    · skip
      refine ws (st_po (po_bt (po_move rfl) (decide_eq_true h0)) rfl rfl rfl ?_)
      refine ws (st_po (po_move rfl) rfl rfl rfl ?_)
      refine ws (st_po (po_move rfl) rfl rfl rfl ?_)
      refine ws (st_po (po_move rfl) rfl rfl rfl ?_)
      refine ws (st_po (po_sub' rfl rfl (by omega) (by omega)) rfl rfl rfl ?_)
      refine ws (st_po (po_iaddr rfl rfl (by exact fc_slice_35_3_1) (by first | omega | (simp only [List.length_nil, List.length_cons, List.length_append, List.length_replicate, List.length_set, List.length_map, List.length_take, List.length_drop]; omega)) (by first | omega | (simp only [List.length_nil, List.length_cons, List.length_append, List.length_replicate, List.length_set, List.length_map, List.length_take, List.length_drop]; omega))) rfl rfl rfl ?_)
      refine ws (st_po (po_load_sl rfl (List.getElem?_eq_getElem (by first | omega | (simp only [List.length_nil, List.length_cons, List.length_append, List.length_replicate, List.length_set, List.length_map, List.length_take, List.length_drop]; omega))) (by exact fc_flat_3) (by rfl)) rfl rfl rfl ?_)
      refine ws (st_po (po_le rfl rfl) rfl rfl rfl ?_)
      refine ws (st_po (po_pick_t rfl rfl) rfl rfl rfl ?_)
      refine ws (st_po (po_pick_f rfl rfl) rfl rfl rfl ?_)
      refine s_nil ?_
      refine at_then_wp ?_
      first | refine r_dec_f rfl (Int.not_le.2 (ok.up ((k : Int) - 1).toNat (k : Int).toNat (by omega) (by omega) (by omega))) ?_ | refine r_nd_f rfl (Int.not_le.2 (ok.up ((k : Int) - 1).toNat (k : Int).toNat (by omega) (by omega) (by omega))) ?_ | refine r_cond_f rfl (Int.not_le.2 (ok.up ((k : Int) - 1).toNat (k : Int).toNat (by omega) (by omega) (by omega))) ?_
      refine r_skip ?_
      refine at_block_normal ?_
      refine at_then_wp ?_
      refine r_reg ?_
      refine ws (st_po (po_add' rfl rfl (by omega) (by omega)) rfl rfl rfl ?_)
      refine ws (st_po (po_move rfl) rfl rfl rfl ?_)
      refine s_nil ?_
      exact at_again (k + 1) (And.intro rfl (trivial)) (And.intro rfl (And.intro rfl (And.intro rfl (And.intro rfl (trivial))))) (by omega) (by omega) ent
    · skip
      refine ws (st_po (po_bf (po_move rfl) (decide_eq_false h0)) rfl rfl rfl ?_)
      refine ws (st_no rfl rfl rfl ?_)
      refine ws (st_no rfl rfl rfl ?_)
      refine ws (st_no rfl rfl rfl ?_)
      refine ws (st_no rfl rfl rfl ?_)
      refine ws (st_no rfl rfl rfl ?_)
      refine ws (st_no rfl rfl rfl ?_)
      refine ws (st_no rfl rfl rfl ?_)
      refine ws (st_po (po_pick_f rfl rfl) rfl rfl rfl ?_)
      refine ws (st_po (po_pick_f rfl rfl) rfl rfl rfl ?_)
      refine s_nil ?_
      refine at_then_wp ?_
      refine r_cond_f rfl rfl ?_
      refine r_skip ?_
      refine at_block_normal ?_
      refine at_then_wp ?_
      refine r_reg ?_
      refine ws (st_po (po_add' rfl rfl (by omega) (by omega)) rfl rfl rfl ?_)
      refine ws (st_po (po_move rfl) rfl rfl rfl ?_)
      refine s_nil ?_
      exact at_again (k + 1) (And.intro rfl (trivial)) (And.intro rfl (And.intro rfl (And.intro rfl (And.intro rfl (trivial))))) (by omega) (by omega) ent
  · intro hlt
    refine r_exit ?_
    refine at_then_exit ?_
    refine at_then_exit ?_
    refine at_block_here ?_
    refine at_then_wp ?_
    refine r_seq ?_
    refine r_reg ?_
    refine ws (st_po (po_loada rfl (by exact fc_agg_41_3) (by rfl)) rfl rfl rfl ?_)
    refine ws (st_call (co_fn rfl rfl) (tile_May tc t (by omega)) (by infer_instance) rfl rfl rfl ?_)
    rintro v39 _ ⟨rfl, rfl⟩
    try dsimp only [List.cons_append, List.nil_append]
    refine ws (st_po (po_assign rfl) rfl rfl rfl ?_)
    refine s_nil ?_
    refine at_then_wp ?_
    refine r_ret ?_
    refine at_ret1 rfl (rv_tmp rfl) ⟨_, ⟨by rw [decide_eq_true ok.may], rfl⟩, ?_⟩
    try dsimp only [List.cons_append, List.nil_append]
    exact ent

/-- how far each local is from a local -/
abbrev oneS (x : Int) : List Seed := [⟨x, 4, 0⟩]
theorem one_may {t : Tile} (hm : MayT t) {x : Int} (ho : Opn t.c x) : MayS t (oneS x) := by
  refine ⟨hm, fun s hs => ?_⟩
  have : s = ⟨x, 4, 0⟩ := by simpa using hs
  subst this
  exact ⟨ho.1, ho.2.1, ho.2.2, Int.le_refl _, by simp, by simp [OutS]⟩
theorem table_To (tc : Value) (t : Tile) (x : Int) (hm : MayT t) (hb : ∀ x ∈ t.c, 1 ≤ x ∧ x ≤ 255) (ho : Opn t.c x) : Spec PP 146 #[tileV tc t, .int .i64 x] [Sl eB tc t.c]
    (fun v M => ∃ dv d, v = .tuple #[dv, .int .i64 0] ∧ M = [Sl eB tc t.c, Sl eI dv d] ∧ d.length = t.c.length ∧ IsDist t.w t.h t.c (srcS (oneS x)) (dF d)) := by
  refine spec_of (Go.Proofs.Tryz.func146) rfl rfl rfl (by exact fc_enters_146) ?_
  intro g F
  try dsimp only [List.cons_append, List.nil_append]
  refine r_seq ?_
  refine r_reg ?_
  refine ws (st_xo (xo_box rfl rfl) rfl rfl rfl ?_)
  rintro _ _ ⟨b2, rfl, rfl⟩
  refine ws (st_po (po_assign rfl) rfl rfl rfl ?_)
  refine ws (st_po (po_assign rfl) rfl rfl rfl ?_)
  refine s_nil ?_
  refine at_then_wp ?_
  refine r_seq ?_
  refine r_reg ?_
  refine ws (st_po (po_loada rfl (by exact fc_agg_41_3) (by rfl)) rfl rfl rfl ?_)
  refine ws (st_po (po_move rfl) rfl rfl rfl ?_)
  refine ws (st_po (po_build1 rfl (by exact fc_zero_45) (by exact fc_places_45_0_1) (by exact fc_info_45) rfl) rfl rfl rfl ?_)
  refine ws (st_xo (xo_bslice eS (oneS x) rfl (by exact fc_slice_32_45_3) (by exact fc_elem_45_3_24) ⟨rfl, rfl, trivial⟩ rfl (by decide)) rfl rfl rfl ?_)
  rintro v9 _ rfl
  refine ws (st_call (co_fn rfl rfl) (sweep_Spread tc v9 t (oneS x) (one_may hm ho) hb (by simp) (by simp)) (by infer_instance) rfl rfl rfl ?_)
  rintro v10 _ ⟨dv, d, rfl, rfl, hdl, hd⟩
  try dsimp only [List.cons_append, List.nil_append]
  refine ws (st_po (po_extract rfl rfl) rfl rfl rfl ?_)
  refine ws (st_po (po_extract rfl rfl) rfl rfl rfl ?_)
  refine ws (st_po (po_assign rfl) rfl rfl rfl ?_)
  refine ws (st_po (po_assign rfl) rfl rfl rfl ?_)
  refine s_nil ?_
  refine at_then_wp ?_
  refine r_ret ?_
  refine at_ret2 rfl (rv_tmp rfl) (rv_tmp rfl) ⟨_, ⟨dv, d, rfl, rfl, hdl, hd⟩, ?_⟩
  try dsimp only [List.cons_append, List.nil_append]
  exact ent

/-- a column of the table -/
def Col (t : Tile) (l : List Int) (out : List Int) (j : Nat) : Prop := ∃ (x : Int) (d : List Int), l[j]? = some x ∧ d.length = t.c.length ∧ IsDist t.w t.h t.c (srcS (oneS x)) (dF d) ∧ ∀ i y, l[i]? = some y → out[i * l.length + j]? = some (gAt d y)
theorem idx_ne {n i j i' j' : Nat} (hj : j < n) (hj' : j' < n) (h : i * n + j = i' * n + j') : i = i' ∧ j = j' := by
  have h1 : (i * n + j) % n = j := by rw [Nat.add_comm, Nat.add_mul_mod_self_right, Nat.mod_eq_of_lt hj]
  have h2 : (i' * n + j') % n = j' := by rw [Nat.add_comm, Nat.add_mul_mod_self_right, Nat.mod_eq_of_lt hj']
  have h3 : (i * n + j) / n = i := by rw [Nat.add_comm, Nat.add_mul_div_right _ _ (by omega), Nat.div_eq_of_lt hj]; omega
  have h4 : (i' * n + j') / n = i' := by rw [Nat.add_comm, Nat.add_mul_div_right _ _ (by omega), Nat.div_eq_of_lt hj']; omega
  exact ⟨by rw [← h3, h, h4], by rw [← h1, h, h2]⟩
theorem idx_lt {n i j : Nat} (hi : i < n) (hj : j < n) : i * n + j < n * n := by
  have : (i + 1) * n ≤ n * n := Nat.mul_le_mul_right _ hi
  rw [Nat.succ_mul] at this; omega
theorem Col.set {t : Tile} {l out : List Int} {j i j' : Nat} {v : Int} (h : Col t l out j) (hj : j < l.length) (hj' : j' < l.length) (hne : j ≠ j') : Col t l (out.set (i * l.length + j') v) j := by
  obtain ⟨x, d, h1, h2, h3, h4⟩ := h
  refine ⟨x, d, h1, h2, h3, fun i' y hy => ?_⟩
  rw [List.getElem?_set, if_neg (fun e => hne (idx_ne hj' hj e).2.symm)]
  exact h4 i' y hy

theorem table_Make (tc lv : Value) (t : Tile) (l : List Int) (ok : LocsOk t l) : Spec PP 117 #[tileV tc t, lv] [Sl eB tc t.c, Sl eI lv l]
    (fun v M => ∃ ov out, v = .tuple #[ov, .int .i64 0] ∧ M = [Sl eB tc t.c, Sl eI lv l, Sl eI ov out] ∧ out.length = l.length * l.length ∧ ∀ j, j < l.length → Col t l out j) := by
  have hsm := ok.small
  have hll := rising_len ok.up (n := t.c.length) (fun x hx => ⟨(ok.op x hx).1, (ok.op x hx).2.1⟩)
  have hmul := mul_1k (a := (l.length : Int)) (b := l.length) (by omega) (by omega) (by omega) (by omega)
  refine spec_of (Go.Proofs.Tryz.func117) rfl rfl rfl (by exact fc_enters_117) ?_
  intro g F
  try dsimp only [List.cons_append, List.nil_append]
  refine r_seq ?_
  refine r_reg ?_
  refine ws (st_xo (xo_box rfl rfl) rfl rfl rfl ?_)
  rintro _ _ ⟨b2, rfl, rfl⟩
  refine ws (st_po (po_assign rfl) rfl rfl rfl ?_)
  refine ws (st_po (po_assign rfl) rfl rfl rfl ?_)
  refine s_nil ?_
  refine at_then_wp ?_
  refine r_seq ?_
  refine r_seq ?_
  refine r_reg ?_
  refine ws (st_po (po_loada rfl (by exact fc_agg_41_3) (by rfl)) rfl rfl rfl ?_)
  refine ws (st_po (po_move rfl) rfl rfl rfl ?_)
  refine ws (st_call (co_fn rfl rfl) (table_may tc lv t l ok) (by infer_instance) rfl rfl rfl ?_)
  rintro v16 _ ⟨rfl, rfl⟩
  try dsimp only [List.cons_append, List.nil_append]
  refine ws (st_po (po_not rfl) rfl rfl rfl ?_)
  refine s_nil ?_
  refine at_then_wp ?_
  refine r_cond_f rfl (rfl) ?_
  refine r_skip ?_
  refine at_then_wp ?_
  refine r_seq ?_
  refine r_reg ?_
  refine ws (st_po (po_move rfl) rfl rfl rfl ?_)
  refine ws (st_po (po_len rfl (by exact fc_slice_35_3_1)) rfl rfl rfl ?_)
  refine ws (st_po (po_assign rfl) rfl rfl rfl ?_)
  refine s_nil ?_
  refine at_then_wp ?_
  refine r_seq ?_
  refine r_reg ?_
  refine ws (st_po (po_move rfl) rfl rfl rfl ?_)
  refine ws (st_po (po_move rfl) rfl rfl rfl ?_)
  refine ws (st_po (po_mul' rfl rfl (by omega) (by omega)) rfl rfl rfl ?_)
  refine ws (st_xo (xo_make eI (0) rfl rfl (by exact fc_slice_35_3_1) (by exact fc_elem_3_1_8) (by exact fc_zero_3) rfl (by first | omega | (simp only [List.length_nil, List.length_cons, List.length_append, List.length_replicate, List.length_set, List.length_map, List.length_take, List.length_drop]; omega)) (by first | omega | (simp only [List.length_nil, List.length_cons, List.length_append, List.length_replicate, List.length_set, List.length_map, List.length_take, List.length_drop]; omega)) (by first | omega | (simp only [List.length_nil, List.length_cons, List.length_append, List.length_replicate, List.length_set, List.length_map, List.length_take, List.length_drop]; omega))) rfl rfl rfl ?_)
  rintro v23 _ rfl
  refine ws (st_po (po_assign rfl) rfl rfl rfl ?_)
  refine s_nil ?_
  refine at_then_wp ?_
  refine r_seq ?_
  refine r_seq ?_
  refine r_reg ?_
  refine ws (st_po (po_move rfl) rfl rfl rfl ?_)
  refine ws (st_po (po_len rfl (by exact fc_slice_35_3_1)) rfl rfl rfl ?_)
  refine ws (st_po (po_move rfl) rfl rfl rfl ?_)
  refine s_nil ?_
  refine at_then_wp ?_
  refine r_block ?_
  have hn2 : ((l.length : Int) * l.length).toNat = l.length * l.length := by rw [← Int.natCast_mul, Int.toNat_natCast]
  rw [hn2]
  refine r_loop (S := Nat × List Int) (fun ⟨j, out⟩ => [(26, .int .i64 j)]) [(1, _), (2, _), (6, _), (7, _), (24, _), (25, _)] (fun ⟨j, out⟩ => [Sl eI v23 out, Sl eI lv l, Blk b2 41 [.int .i64 t.w, .int .i64 t.h, tc], Sl eB tc t.c, F]) (fun ⟨j, out⟩ => j ≤ l.length ∧ out.length = l.length * l.length ∧ ∀ j', j' < j → Col t l out j') (fun ⟨j, out⟩ => l.length - j) ((0, List.replicate (l.length * l.length) 0)) (And.intro rfl (And.intro rfl (And.intro rfl (And.intro rfl (And.intro rfl (And.intro rfl (trivial))))))) (And.intro rfl (trivial)) (⟨by omega, by simp, fun j' h => by omega⟩) ent ?_
  rintro ⟨j, out⟩ ⟨hj, hol, hcol⟩
  try dsimp only [List.cons_append, List.nil_append]
  refine r_seq ?_
  refine r_reg ?_
  refine ws (st_po (po_lt rfl rfl) rfl rfl rfl ?_)
  refine s_nil ?_
  refine at_then_wp ?_
  refine r_seq ?_
  first | refine r_cond_not rfl ?_ ?_ | refine r_cond_dec rfl ?_ ?_ | refine r_cond rfl ?_ ?_
  · intro hjl
    have hjl' : j < l.length := by omega
    have hop := ok.op _ (List.getElem_mem hjl')
    refine r_skip ?_
    refine at_then_wp ?_
    refine r_seq ?_
    refine r_block ?_
    refine r_seq ?_
    refine r_reg ?_
    refine ws (st_po (po_move rfl) rfl rfl rfl ?_)
    refine ws (st_po (po_iaddr rfl rfl (by exact fc_slice_35_3_1) (by first | omega | (simp only [List.length_nil, List.length_cons, List.length_append, List.length_replicate, List.length_set, List.length_map, List.length_take, List.length_drop]; omega)) (by first | omega | (simp only [List.length_nil, List.length_cons, List.length_append, List.length_replicate, List.length_set, List.length_map, List.length_take, List.length_drop]; omega))) rfl rfl rfl ?_)
    refine ws (st_po (po_load_sl rfl (List.getElem?_eq_getElem (by first | omega | (simp only [List.length_nil, List.length_cons, List.length_append, List.length_replicate, List.length_set, List.length_map, List.length_take, List.length_drop]; omega))) (by exact fc_flat_3) (by rfl)) rfl rfl rfl ?_)
    refine ws (st_po (po_assign rfl) rfl rfl rfl ?_)
    refine ws (st_po (po_assign rfl) rfl rfl rfl ?_)
    refine s_nil ?_
    refine at_then_wp ?_
    refine r_seq ?_
    refine r_reg ?_
    refine ws (st_po (po_loada rfl (by exact fc_agg_41_3) (by rfl)) rfl rfl rfl ?_)
    refine ws (st_po (po_move rfl) rfl rfl rfl ?_)
    refine ws (st_call (co_fn rfl rfl) (table_To tc t (l[j]) ok.may ok.bt hop) (by infer_instance) rfl rfl rfl ?_)
    rintro v34 _ ⟨dv, d, rfl, rfl, hdl, hd⟩
    try dsimp only [List.cons_append, List.nil_append]
    refine ws (st_po (po_move rfl) rfl rfl rfl ?_)
    refine ws (st_po (po_extract rfl rfl) rfl rfl rfl ?_)
    refine ws (st_po (po_extract rfl rfl) rfl rfl rfl ?_)
    refine ws (st_po (po_assign rfl) rfl rfl rfl ?_)
    refine ws (st_po (po_assign rfl) rfl rfl rfl ?_)
    refine s_nil ?_
    refine at_then_wp ?_
    refine r_seq ?_
    refine r_reg ?_
    refine ws (st_po (po_move rfl) rfl rfl rfl ?_)
    refine ws (st_po (po_len rfl (by exact fc_slice_35_3_1)) rfl rfl rfl ?_)
    refine ws (st_po (po_move rfl) rfl rfl rfl ?_)
    refine s_nil ?_
    refine at_then_wp ?_
    refine r_block ?_
    refine r_loop (S := Nat × List Int) (fun ⟨i, out2⟩ => [(39, .int .i64 i)]) [(1, _), (2, _), (6, _), (7, _), (8, _), (10, _), (24, _), (25, _), (26, _), (37, _), (38, _)] (fun ⟨i, out2⟩ => [Sl eI dv d, Sl eI v23 out2, Sl eI lv l, Blk b2 41 [.int .i64 t.w, .int .i64 t.h, tc], Sl eB tc t.c, F]) (fun ⟨i, out2⟩ => i ≤ l.length ∧ out2.length = l.length * l.length ∧ (∀ j', j' < j → Col t l out2 j') ∧ ∀ i' y, i' < i → l[i']? = some y → out2[i' * l.length + j]? = some (gAt d y)) (fun ⟨i, out2⟩ => l.length - i) ((0, out)) (And.intro rfl (And.intro rfl (And.intro rfl (And.intro rfl (And.intro rfl (And.intro rfl (And.intro rfl (And.intro rfl (And.intro rfl (And.intro rfl (And.intro rfl (trivial)))))))))))) (And.intro rfl (trivial)) (⟨by omega, hol, hcol, fun i' y h => by omega⟩) ent ?_
    rintro ⟨i, out2⟩ ⟨hi, hol2, hcol2, hrow⟩
    try dsimp only [List.cons_append, List.nil_append]
    refine r_seq ?_
    refine r_reg ?_
    refine ws (st_po (po_lt rfl rfl) rfl rfl rfl ?_)
    refine s_nil ?_
    refine at_then_wp ?_
    refine r_seq ?_
    first | refine r_cond_not rfl ?_ ?_ | refine r_cond_dec rfl ?_ ?_ | refine r_cond rfl ?_ ?_
    · intro hil
      have hil' : i < l.length := by omega
      have hopi := ok.op _ (List.getElem_mem hil')
      have hopi0 := hopi.1
      have hopi1 := hopi.2.1
      have hopj := ok.op _ (List.getElem_mem (show (i : Int).toNat < l.length by omega))
      have hopj0 := hopj.1
      have hopj1 := hopj.2.1
      have hix := idx_lt hil' hjl'
      have hin : ((i : Int) * l.length + j) = ((i * l.length + j : Nat) : Int) := by simp
      have hi2 : 0 ≤ (i : Int) * l.length ∧ (i : Int) * l.length ≤ 1048576 := mul_1k (by omega) (by omega) (by omega) (by omega)
      have hdg : gAt d l[i] = d[l[i].toNat]'(by omega) := gAt_get (by omega)
      have hi3 : (i : Int) * l.length + j < out2.length := by rw [hol2, hin]; omega
      refine r_skip ?_
      refine at_then_wp ?_
      refine r_seq ?_
      refine r_block ?_
      refine r_seq ?_
      refine r_reg ?_
      refine ws (st_po (po_move rfl) rfl rfl rfl ?_)
      refine ws (st_po (po_iaddr rfl rfl (by exact fc_slice_35_3_1) (by first | omega | (simp only [List.length_nil, List.length_cons, List.length_append, List.length_replicate, List.length_set, List.length_map, List.length_take, List.length_drop]; omega)) (by first | omega | (simp only [List.length_nil, List.length_cons, List.length_append, List.length_replicate, List.length_set, List.length_map, List.length_take, List.length_drop]; omega))) rfl rfl rfl ?_)
      refine ws (st_po (po_load_sl rfl (List.getElem?_eq_getElem (by first | omega | (simp only [List.length_nil, List.length_cons, List.length_append, List.length_replicate, List.length_set, List.length_map, List.length_take, List.length_drop]; omega))) (by exact fc_flat_3) (by rfl)) rfl rfl rfl ?_)
      refine ws (st_po (po_assign rfl) rfl rfl rfl ?_)
      refine ws (st_po (po_assign rfl) rfl rfl rfl ?_)
      refine s_nil ?_
      refine at_then_wp ?_
      refine r_reg ?_
      refine ws (st_po (po_move rfl) rfl rfl rfl ?_)
      refine ws (st_po (po_move rfl) rfl rfl rfl ?_)
      refine ws (st_po (po_move rfl) rfl rfl rfl ?_)
      refine ws (st_po (po_mul' rfl rfl (by omega) (by omega)) rfl rfl rfl ?_)
      refine ws (st_po (po_move rfl) rfl rfl rfl ?_)
      refine ws (st_po (po_add' rfl rfl (by omega) (by omega)) rfl rfl rfl ?_)
      refine ws (st_po (po_move rfl) rfl rfl rfl ?_)
      refine ws (st_po (po_move rfl) rfl rfl rfl ?_)
      refine ws (st_po (po_iaddr rfl rfl (by exact fc_slice_35_3_1) (by first | omega | (simp only [List.length_nil, List.length_cons, List.length_append, List.length_replicate, List.length_set, List.length_map, List.length_take, List.length_drop]; omega)) (by first | omega | (simp only [List.length_nil, List.length_cons, List.length_append, List.length_replicate, List.length_set, List.length_map, List.length_take, List.length_drop]; omega))) rfl rfl rfl ?_)
      refine ws (st_po (po_load_sl rfl (List.getElem?_eq_getElem (by first | omega | (simp only [List.length_nil, List.length_cons, List.length_append, List.length_replicate, List.length_set, List.length_map, List.length_take, List.length_drop]; omega))) (by exact fc_flat_3) (by rfl)) rfl rfl rfl ?_)
      refine ws (st_po (po_iaddr rfl rfl (by exact fc_slice_35_3_1) (by first | omega | (simp only [List.length_nil, List.length_cons, List.length_append, List.length_replicate, List.length_set, List.length_map, List.length_take, List.length_drop]; omega)) (by first | omega | (simp only [List.length_nil, List.length_cons, List.length_append, List.length_replicate, List.length_set, List.length_map, List.length_take, List.length_drop]; omega))) rfl rfl rfl ?_)
      refine ws (st_so (so_store_sl rfl rfl (List.getElem?_eq_getElem (by omega)) (by exact fc_flat_3) (by decide) (by rfl) (by rfl)) rfl rfl ?_)
      refine s_nil ?_
      refine at_block_normal ?_
      refine at_then_wp ?_
      refine r_reg ?_
      refine ws (st_po (po_add' rfl rfl (by omega) (by omega)) rfl rfl rfl ?_)
      refine ws (st_po (po_move rfl) rfl rfl rfl ?_)
      refine s_nil ?_
      rw [hin]
      simp only [Int.toNat_natCast]
      rw [← hdg]
      exact at_again ((i + 1, out2.set (i * l.length + j) (gAt d l[i]))) (And.intro rfl (trivial)) (And.intro rfl (And.intro rfl (And.intro rfl (And.intro rfl (And.intro rfl (And.intro rfl (And.intro rfl (And.intro rfl (And.intro rfl (And.intro rfl (And.intro rfl (trivial)))))))))))) (⟨by omega, by simpa using hol2, fun j' h => (hcol2 j' h).set (by omega) hjl' (by omega), fun i' y h hy => by
      rw [List.getElem?_set]
      by_cases e : i = i'
      · subst e; rw [if_pos rfl, if_pos (by omega)]; rw [List.getElem?_eq_getElem hil'] at hy; cases hy; rfl
      · rw [if_neg (fun e2 => e (idx_ne hjl' hjl' e2).1)]; exact hrow i' y (by omega) hy⟩) (by omega) ent
    · intro hil
      refine r_exit ?_
      refine at_then_exit ?_
      refine at_then_exit ?_
      refine at_block_here ?_
      refine at_block_normal ?_
      refine at_then_wp ?_
      refine r_reg ?_
      refine ws (st_po (po_add' rfl rfl (by omega) (by omega)) rfl rfl rfl ?_)
      refine ws (st_po (po_move rfl) rfl rfl rfl ?_)
      refine s_nil ?_
      exact at_again ((j + 1, out2)) (And.intro rfl (trivial)) (And.intro rfl (And.intro rfl (And.intro rfl (And.intro rfl (And.intro rfl (And.intro rfl (trivial))))))) (⟨by omega, hol2, fun j' h => by
      by_cases e : j' = j
      · subst e; exact ⟨l[j'], d, List.getElem?_eq_getElem hjl', hdl, hd, fun i' y hy => hrow i' y (by have := lt_of_get hy; omega) hy⟩
      · exact hcol2 j' (by omega)⟩) (by omega) ent
  · intro hjl
    refine r_exit ?_
    refine at_then_exit ?_
    refine at_then_exit ?_
    refine at_block_here ?_
    refine at_then_wp ?_
    refine r_seq ?_
    refine r_reg ?_
    refine ws (st_po (po_move rfl) rfl rfl rfl ?_)
    refine ws (st_po (po_assign rfl) rfl rfl rfl ?_)
    refine ws (st_po (po_assign rfl) rfl rfl rfl ?_)
    refine s_nil ?_
    refine at_then_wp ?_
    refine r_ret ?_
    refine at_ret2 rfl (rv_tmp rfl) (rv_tmp rfl) ⟨_, ⟨v23, out, rfl, rfl, hol, fun j' h => hcol j' (by omega)⟩, ?_⟩
    try dsimp only [List.cons_append, List.nil_append]
    exact ent
end Hd
end
