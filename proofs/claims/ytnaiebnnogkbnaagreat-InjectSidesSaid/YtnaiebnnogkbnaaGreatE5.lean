/- Contracts of functions of the program, and the laws of memory that they are proved with: part 5. -/
import Derived.WalkKit
import Derived.ProofKit
import Derived.OpenShut
import Derived.ShutString
import Derived.ChangeOld
import Derived.Carry
import Derived.Lib.SmallJoins
import Derived.Test.YtnaiebnnogkbnaaGreatE4
set_option linter.unusedVariables false
set_option linter.unusedSimpArgs false
section
namespace Hd
set_option maxRecDepth 100000
open Go

/-- a map that was made -/
structure MadeOk (w h : Int) (c : List Int) : Prop where
  wb : 1 ≤ w ∧ w ≤ 40
  hb : 1 ≤ h ∧ h ≤ 40
  len : (c.length : Int) = w * h
  bt : ∀ x ∈ c, 1 ≤ x ∧ x ≤ 255
theorem MadeOk.may {w h : Int} {c : List Int} (k : MadeOk w h c) : MayM w h c := ⟨⟨⟨k.wb.1, by have := k.wb.2; omega⟩, ⟨k.hb.1, by have := k.hb.2; omega⟩⟩, k.len, fun h0 => by have := k.bt 0 h0; omega⟩
theorem costB_rng {x : Int} (h0 : 0 ≤ x) (h1 : x ≤ 255) : 1 ≤ costB x ∧ costB x ≤ 255 := by
  unfold costB
  split
  · omega
  · split <;> omega
theorem ref_Made (K : HP) (w h : Int) (cv : Value) (c : List Int) [Rd [K] cv Int eB c] (hc : ∀ x ∈ c, 0 ≤ x ∧ x ≤ 255) : Spec PP 7 #[.int .i64 w, .int .i64 h, cv] [K]
    (fun v M => ∃ w' h' mv C, v = mapV w' h' mv ∧ M = [K, Sl eB mv C] ∧ MadeOk w' h' C) := by
  have hw : 1 ≤ 1 + w % (40 - 1 + 1) ∧ 1 + w % (40 - 1 + 1) ≤ 40 := by omega
  have hh : 1 ≤ 1 + h % (40 - 1 + 1) ∧ 1 + h % (40 - 1 + 1) ≤ 40 := by omega
  generalize hw' : 1 + w % (40 - 1 + 1) = W at hw
  generalize hh' : 1 + h % (40 - 1 + 1) = H at hh
  have hm := mul_1k (a := W) (b := H) (by omega) (by omega) (by omega) (by omega)
  refine spec_of (Go.Proofs.Tryz.func7) rfl rfl rfl (by exact fc_enters_7) ?_
  intro g F
  try dsimp only [List.cons_append, List.nil_append, GridS.l, GridS.p, MeshS.l, MeshS.lF, MeshS.p, FinderS.l, FinderS.p, FinderS.lF, RouteS.l, RouteS.p, GridS.lT, RouteS.lT]
  refine r_seq ?_
  refine r_reg ?_
  refine ws (st_xo (xo_alloc (by exact fc_zero_24)) rfl rfl rfl ?_)
  rintro _ _ ⟨b6, rfl, rfl⟩
  refine s_nil ?_
  refine at_then_wp ?_
  refine r_seq ?_
  refine r_reg ?_
  refine ws (st_po (po_move rfl) rfl rfl rfl ?_)
  refine ws (st_call (co_fn rfl rfl) (ref_Within w 1 40 (by omega) (by omega) (by omega)) (by infer_instance) rfl rfl rfl ?_)
  rintro v12 _ ⟨rfl, rfl⟩
  try dsimp only [List.cons_append, List.nil_append, GridS.l, GridS.p, MeshS.l, MeshS.lF, MeshS.p, FinderS.l, FinderS.p, FinderS.lF, RouteS.l, RouteS.p, GridS.lT, RouteS.lT]
  refine ws (st_po (po_move rfl) rfl rfl rfl ?_)
  refine ws (st_call (co_fn rfl rfl) (ref_Within h 1 40 (by omega) (by omega) (by omega)) (by infer_instance) rfl rfl rfl ?_)
  rintro v14 _ ⟨rfl, rfl⟩
  try dsimp only [List.cons_append, List.nil_append, GridS.l, GridS.p, MeshS.l, MeshS.lF, MeshS.p, FinderS.l, FinderS.p, FinderS.lF, RouteS.l, RouteS.p, GridS.lT, RouteS.lT]
  rw [hw', hh']
  refine ws (st_po (po_build1 rfl (by exact fc_zero_24) (by exact fc_places_24_0_1) (by exact fc_info_24) rfl) rfl rfl rfl ?_)
  refine ws (st_xo (xo_alloc (by exact fc_zero_24)) rfl rfl rfl ?_)
  rintro _ _ ⟨b7, rfl, rfl⟩
  refine ws (st_so (so_storea1 rfl rfl (by exact fc_agg_24_3) rfl rfl) rfl rfl ?_)
  refine s_nil ?_
  refine at_then_wp ?_
  refine r_seq ?_
  refine r_seq ?_
  refine r_reg ?_
  refine ws (st_po (po_assign rfl) rfl rfl rfl ?_)
  refine s_nil ?_
  refine at_then_wp ?_
  refine r_block ?_
  refine r_loop (S := Nat × Value × List Int) (fun ⟨i, mv, C⟩ => [(8, .int .i64 i)]) [(2, _), (6, _), (7, _)] (fun ⟨i, mv, C⟩ => [Blk b7 24 [.int .i64 W, .int .i64 H, mv], Sl eB mv C, Blk b6 24 [.int .i64 0, .int .i64 0, .slice none 0 0], K, F]) (fun ⟨i, mv, C⟩ => (i : Int) ≤ W * H ∧ C.length = i ∧ ∀ x ∈ C, 1 ≤ x ∧ x ≤ 255) (fun ⟨i, mv, C⟩ => (W * H).toNat - i) ((0, .slice none 0 0, [])) (And.intro rfl (And.intro rfl (And.intro rfl (trivial)))) (And.intro rfl (trivial)) (⟨by omega, rfl, by simp⟩) ent ?_
  rintro ⟨i, mv, C⟩ ⟨hi, hCl, hCb⟩
  try dsimp only [List.cons_append, List.nil_append, GridS.l, GridS.p, MeshS.l, MeshS.lF, MeshS.p, FinderS.l, FinderS.p, FinderS.lF, RouteS.l, RouteS.p, GridS.lT, RouteS.lT]
  refine r_seq ?_
  refine r_seq ?_
  refine r_reg ?_
  refine ws (st_po (po_move rfl) rfl rfl rfl ?_)
  refine ws (st_po (po_faddr rfl (by exact fc_field_24_0_0)) rfl rfl rfl ?_)
  refine ws (st_po (po_load rfl (by exact fc_flat_3) (by rfl)) rfl rfl rfl ?_)
  refine ws (st_po (po_faddr rfl (by exact fc_field_24_1_1)) rfl rfl rfl ?_)
  refine ws (st_po (po_load rfl (by exact fc_flat_3) (by rfl)) rfl rfl rfl ?_)
  refine ws (st_po (po_mul' rfl rfl (by omega) (by omega)) rfl rfl rfl ?_)
  refine ws (st_po (po_lt rfl rfl) rfl rfl rfl ?_)
  refine s_nil ?_
  refine at_then_wp ?_
  first | refine r_cond_not rfl ?_ ?_ | refine r_cond_dec rfl ?_ ?_ | refine r_cond rfl ?_ ?_
  · intro hlt
    have hq : 0 ≤ (i : Int) / c.length ∧ (i : Int) / c.length ≤ i := ⟨Int.ediv_nonneg (by omega) (by omega), Int.ediv_le_self _ (by omega)⟩
    refine r_skip ?_
    refine at_then_wp ?_
    refine r_seq ?_
    refine r_block ?_
    refine r_seq ?_
    refine r_reg ?_
    refine ws (st_po (po_assign rfl) rfl rfl rfl ?_)
    refine s_nil ?_
    refine at_then_wp ?_
    refine r_joink (S := Int) (fun x => [(9, .int .u8 x)]) [(2, _), (6, _), (7, _), (8, _)] (fun x => [Blk b7 24 [.int .i64 W, .int .i64 H, mv], Sl eB mv C, Blk b6 24 [.int .i64 0, .int .i64 0, .slice none 0 0], K, F]) (fun x => 0 ≤ x ∧ x ≤ 255) (And.intro rfl (And.intro rfl (And.intro rfl (And.intro rfl (trivial))))) ?_ ?_
    · skip
      refine r_seq ?_
      refine r_reg ?_
      refine ws (st_po (po_move rfl) rfl rfl rfl ?_)
      refine ws (st_po (po_len rfl (by exact fc_slice_22_5_1)) rfl rfl rfl ?_)
      refine ws (st_po (po_assign rfl) rfl rfl rfl ?_)
      refine s_nil ?_
      refine at_then_wp ?_
      refine r_seq ?_
      refine r_reg ?_
      refine ws (st_po (po_move rfl) rfl rfl rfl ?_)
      refine ws (st_po (po_gt rfl rfl) rfl rfl rfl ?_)
      refine s_nil ?_
      refine at_then_wp ?_
      first | refine r_cond_not rfl ?_ ?_ | refine r_cond_dec rfl ?_ ?_ | refine r_cond rfl ?_ ?_
      · intro hn
        have hr : 0 ≤ ((i : Int) + (i : Int) / c.length * 5) % c.length ∧ ((i : Int) + (i : Int) / c.length * 5) % c.length < c.length := ⟨Int.emod_nonneg _ (by omega), Int.emod_lt_of_pos _ (by omega)⟩
        refine r_reg ?_
        refine ws (st_po (po_move rfl) rfl rfl rfl ?_)
        refine ws (st_po (po_move rfl) rfl rfl rfl ?_)
        refine ws (st_po (po_move rfl) rfl rfl rfl ?_)
        refine ws (st_po (po_move rfl) rfl rfl rfl ?_)
        refine ws (st_po (po_quo' rfl rfl (by omega) (by omega) (by omega)) rfl rfl rfl ?_)
        refine ws (st_po (po_mul' rfl rfl (by omega) (by omega)) rfl rfl rfl ?_)
        refine ws (st_po (po_add' rfl rfl (by omega) (by omega)) rfl rfl rfl ?_)
        refine ws (st_po (po_move rfl) rfl rfl rfl ?_)
        refine ws (st_po (po_rem' rfl rfl (by omega) (by omega)) rfl rfl rfl ?_)
        refine ws (st_po (po_iaddr rfl rfl (by exact fc_slice_22_5_1) (by first | omega | (simp only [List.length_nil, List.length_cons, List.length_append, List.length_replicate, List.length_set, List.length_map, List.length_take, List.length_drop]; omega)) (by first | omega | (simp only [List.length_nil, List.length_cons, List.length_append, List.length_replicate, List.length_set, List.length_map, List.length_take, List.length_drop]; omega))) rfl rfl rfl ?_)
        refine ws (st_po (po_load_sl rfl (List.getElem?_eq_getElem (by first | omega | (simp only [List.length_nil, List.length_cons, List.length_append, List.length_replicate, List.length_set, List.length_map, List.length_take, List.length_drop]; omega))) (by exact fc_flat_5) (by rfl)) rfl rfl rfl ?_)
        refine ws (st_po (po_assign rfl) rfl rfl rfl ?_)
        refine s_nil ?_
        have hxm := hc _ (List.getElem_mem (show (((i : Int) + (i : Int) / c.length * 5) % c.length).toNat < c.length by omega))
        exact at_join ((c[(((i : Int) + (i : Int) / c.length * 5) % c.length).toNat]'(by omega))) (And.intro rfl (trivial)) (And.intro rfl (And.intro rfl (And.intro rfl (And.intro rfl (trivial))))) (hxm) ent
      · intro hn
        refine r_skip ?_
        exact at_join (1) (And.intro rfl (trivial)) (And.intro rfl (And.intro rfl (And.intro rfl (And.intro rfl (trivial))))) (by omega) ent
    · rintro x hx
      try dsimp only [List.cons_append, List.nil_append, GridS.l, GridS.p, MeshS.l, MeshS.lF, MeshS.p, FinderS.l, FinderS.p, FinderS.lF, RouteS.l, RouteS.p, GridS.lT, RouteS.lT]
      refine r_ord [5, 7] _ [(0, 1), (1, 0), (2, 1), (3, 2), (4, 2), (5, 2), (6, 1), (7, 2)] fc_mixed (by kernel_rfl) (fun _ h => h) ?_
      refine o_fr rfl (po_faddr rfl (by exact fc_field_24_2_2)) rfl rfl rfl ?_
      refine o_rd rfl (po_load rfl (by exact fc_flat_22) (by rfl)) (by first | exact fun _ h => h | exact ent) rfl rfl rfl ?_
      refine o_fr rfl (po_move rfl) rfl rfl rfl ?_
      refine o_st rfl (st_call (co_fn rfl rfl) (ref_Cost x hx.1 hx.2) (by infer_instance) rfl rfl rfl ?_)
      rintro v43 _ ⟨rfl, rfl⟩
      try dsimp only [List.cons_append, List.nil_append, GridS.l, GridS.p, MeshS.l, MeshS.lF, MeshS.p, FinderS.l, FinderS.p, FinderS.lF, RouteS.l, RouteS.p, GridS.lT, RouteS.lT]
      refine ⟨fun _ => (by first | exact fun _ h => h | exact ent), ?_⟩
      have hcb := costB_rng hx.1 hx.2
      refine o_st rfl (st_xo (xo_bslice eB [_] rfl (by exact fc_slice_22_5_1) (by exact fc_elem_5_1_1) ⟨rfl, rfl, trivial⟩ rfl (by decide)) rfl rfl rfl ?_)
      rintro v44 _ rfl
      refine ⟨fun _ => (by first | exact fun _ h => h | exact ent), ?_⟩
      refine o_st rfl (st_xo (xo_append rfl rfl (by exact fc_slice_22_5_1) (by exact fc_slice_22_5_1) (by exact fc_elem_5_1_1) (by first | omega | (simp only [List.length_nil, List.length_cons, List.length_append, List.length_replicate, List.length_set, List.length_map, List.length_take, List.length_drop]; omega)) (by first | omega | (simp only [List.length_nil, List.length_cons, List.length_append, List.length_replicate, List.length_set, List.length_map, List.length_take, List.length_drop]; omega))) rfl rfl rfl ?_)
      rintro v45 _ rfl
      refine ⟨fun h => late_no h (by kernel_rfl), ?_⟩
      refine o_fr rfl (po_faddr rfl (by exact fc_field_24_2_2)) rfl rfl rfl ?_
      refine o_st rfl (st_so (so_store1 rfl rfl (by exact fc_flat_22) rfl) rfl rfl ?_)
      refine ⟨fun h => late_no h (by kernel_rfl), ?_⟩
      refine o_nil ?_
      refine at_block_normal ?_
      refine at_then_wp ?_
      refine r_reg ?_
      refine ws (st_po (po_move rfl) rfl rfl rfl ?_)
      refine ws (st_po (po_add' rfl rfl (by omega) (by omega)) rfl rfl rfl ?_)
      refine ws (st_po (po_assign rfl) rfl rfl rfl ?_)
      refine s_nil ?_
      exact at_again ((i + 1, v45, C ++ [costB x])) (And.intro rfl (trivial)) (And.intro rfl (And.intro rfl (And.intro rfl (trivial)))) (⟨by omega, by simp [hCl], fun y hy => by rcases List.mem_append.1 hy with h | h; exact hCb y h; (rw [List.mem_singleton] at h; rw [h]; exact hcb)⟩) (by omega) ent
  · intro hlt
    refine r_exit ?_
    refine at_then_exit ?_
    refine at_then_exit ?_
    refine at_block_here ?_
    refine at_then_wp ?_
    refine r_seq ?_
    refine r_reg ?_
    refine ws (st_po (po_loada rfl (by exact fc_agg_24_3) (by rfl)) rfl rfl rfl ?_)
    refine ws (st_so (so_storea1 rfl rfl (by exact fc_agg_24_3) rfl rfl) rfl rfl ?_)
    refine s_nil ?_
    refine at_then_wp ?_
    refine r_ret ?_
    refine at_ret1 rfl (rv_cella rfl (by exact fc_agg_24_3) (by rfl)) ⟨_, ⟨W, H, mv, C, rfl, rfl, ⟨hw, hh, by omega, hCb⟩⟩, ?_⟩
    try dsimp only [List.cons_append, List.nil_append, GridS.l, GridS.p, MeshS.l, MeshS.lF, MeshS.p, FinderS.l, FinderS.p, FinderS.lF, RouteS.l, RouteS.p, GridS.lT, RouteS.lT]
    exact ent
theorem grid_ok {s : GridS} {w h : Int} {c : List Int} {ep : Int} (hm : MadeOk w h c) (h1 : s.w = w) (h2 : s.h = h) (h3 : s.c = c) (h4 : s.ep = ep) (h5 : 0 ≤ ep ∧ ep ≤ 4611686018427387904) (h6 : s.vs = List.replicate ((secsN w h).1 * (secsN w h).2).toNat ep) : GridOk s := by
  have hM := hm.may
  refine ⟨by rw [h1, h2]; exact hM.1, by rw [h1, h2, h3]; exact hM.2.1, by rw [h3]; exact hm.bt, ?_, by omega, by omega⟩
  have e : secsN w h = (acrN w, acrN h) := by rw [secsN, if_pos hM.1]
  have := secs_mul w h
  rw [e] at this h6
  dsimp only at this h6
  rw [h6, List.length_replicate, h1, h2]
  omega
theorem law16_found (w h : Int) (mv : Value) (C : List Int) (hm : MadeOk w h C) (t : Int) (ht : IsC w h t) : Spec PP 9 #[mapV w h mv, .int .i64 t] [Sl eB mv C]
    (fun v M => ∃ (f : FinderS) (r : RouteS), v = .tuple #[f.m.g.p, r.p] ∧ M = Sl eB mv C :: (f.l r.p ++ r.l) ∧ GridOk f.m.g ∧ f.m.g.w = w ∧ f.m.g.h = h ∧ f.m.g.c = C ∧ f.m.g.ep = 1 ∧ r.ep = 1 ∧ r.goal = t ∧ RouteOk f.m.g r ∧ ∀ v ∈ f.m.g.vs, 1 ≤ v ∧ v ≤ 1) := by
  refine spec_of (Go.Proofs.Tryz.func9) rfl rfl rfl (by exact fc_enters_9) ?_
  intro g F
  try dsimp only [List.cons_append, List.nil_append, GridS.l, GridS.p, MeshS.l, MeshS.lF, MeshS.p, FinderS.l, FinderS.p, FinderS.lF, RouteS.l, RouteS.p, GridS.lT, RouteS.lT]
  refine r_seq ?_
  refine r_reg ?_
  refine ws (st_xo (xo_box rfl rfl) rfl rfl rfl ?_)
  rintro _ _ ⟨b2, rfl, rfl⟩
  refine ws (st_po (po_assign rfl) rfl rfl rfl ?_)
  refine ws (st_po (po_assign rfl) rfl rfl rfl ?_)
  refine s_nil ?_
  refine at_then_wp ?_
  refine r_seq ?_
  refine r_reg ?_
  refine ws (st_po (po_loada rfl (by exact fc_agg_24_3) (by rfl)) rfl rfl rfl ?_)
  refine ws (st_call (co_fn rfl rfl) (grid_New w h 0 mv C hm.may (by omega) (by omega)) (by infer_instance) rfl rfl rfl ?_)
  rintro v10 _ ⟨s, rfl, rfl, hw, hh, hc, hep, hvs⟩
  try dsimp only [List.cons_append, List.nil_append, GridS.l, GridS.p, MeshS.l, MeshS.lF, MeshS.p, FinderS.l, FinderS.p, FinderS.lF, RouteS.l, RouteS.p, GridS.lT, RouteS.lT]
  have ok : GridOk s := grid_ok hm hw hh hc hep (by omega) hvs
  have hv1 : ∀ v ∈ s.vs, 1 ≤ v ∧ v ≤ 1 := fun v hv => by rw [hvs] at hv; have := List.eq_of_mem_replicate hv; omega
  refine ws (st_po (po_assign rfl) rfl rfl rfl ?_)
  refine s_nil ?_
  refine at_then_wp ?_
  refine r_seq ?_
  refine r_reg ?_
  refine ws (st_po (po_move rfl) rfl rfl rfl ?_)
  refine ws (st_call (co_fn rfl rfl) (mesh_New s ok (fun v hv => by have := hv1 v hv; omega)) (by infer_instance) rfl rfl rfl ?_)
  rintro v12 _ ⟨m, rfl, rfl, rfl, okm⟩
  try dsimp only [List.cons_append, List.nil_append, GridS.l, GridS.p, MeshS.l, MeshS.lF, MeshS.p, FinderS.l, FinderS.p, FinderS.lF, RouteS.l, RouteS.p, GridS.lT, RouteS.lT]
  refine ws (st_po (po_move rfl) rfl rfl rfl ?_)
  refine ws (st_call (co_fn rfl rfl) (route_New m) (by infer_instance) rfl rfl rfl ?_)
  rintro v14 _ ⟨f, rfl, rfl, rfl, hfc⟩
  try dsimp only [List.cons_append, List.nil_append, GridS.l, GridS.p, MeshS.l, MeshS.lF, MeshS.p, FinderS.l, FinderS.p, FinderS.lF, RouteS.l, RouteS.p, GridS.lT, RouteS.lT]
  refine ws (st_po (po_assign rfl) rfl rfl rfl ?_)
  refine s_nil ?_
  refine at_then_wp ?_
  refine r_seq ?_
  refine r_seq ?_
  refine r_reg ?_
  refine ws (st_po (po_move rfl) rfl rfl rfl ?_)
  refine ws (st_po (po_peq rfl rfl (by exact fc_ptr_27)) rfl rfl rfl ?_)
  refine ws (st_po (po_bf (po_move rfl) (rfl)) rfl rfl rfl ?_)
  refine ws (st_po (po_move rfl) rfl rfl rfl ?_)
  refine ws (st_po (po_peq rfl rfl (by exact fc_ptr_61)) rfl rfl rfl ?_)
  refine ws (st_po (po_pick_f rfl rfl) rfl rfl rfl ?_)
  refine s_nil ?_
  refine at_then_wp ?_
  first | refine r_dec_f rfl (by simp) ?_ | refine r_nd_f rfl (by simp) ?_ | refine r_cond_f rfl (by simp) ?_
  refine r_skip ?_
  refine at_then_wp ?_
  refine r_seq ?_
  refine r_reg ?_
  refine ws (st_po (po_move rfl) rfl rfl rfl ?_)
  refine ws (st_po (po_move rfl) rfl rfl rfl ?_)
  refine ws (st_call (co_fn rfl rfl) (route_Find1 f okm t (by rw [hw, hh]; exact ht) (by omega)) (by infer_instance) rfl rfl rfl ?_)
  rintro v23 _ ⟨f', r, rfl, rfl, hg, he, hro, okm', hgr, -⟩
  try dsimp only [List.cons_append, List.nil_append, GridS.l, GridS.p, MeshS.l, MeshS.lF, MeshS.p, FinderS.l, FinderS.p, FinderS.lF, RouteS.l, RouteS.p, GridS.lT, RouteS.lT]
  refine ws (st_po (po_assign rfl) rfl rfl rfl ?_)
  refine s_nil ?_
  refine at_then_wp ?_
  refine r_seq ?_
  refine r_seq ?_
  refine r_reg ?_
  refine ws (st_po (po_move rfl) rfl rfl rfl ?_)
  refine ws (st_po (po_peq rfl rfl (by exact fc_ptr_28)) rfl rfl rfl ?_)
  refine s_nil ?_
  refine at_then_wp ?_
  first | refine r_dec_f rfl (by simp) ?_ | refine r_nd_f rfl (by simp) ?_ | refine r_cond_f rfl (by simp) ?_
  refine r_skip ?_
  refine at_then_wp ?_
  refine r_seq ?_
  refine r_reg ?_
  refine ws (st_po (po_move rfl) rfl rfl rfl ?_)
  refine ws (st_po (po_move rfl) rfl rfl rfl ?_)
  refine ws (st_po (po_assign rfl) rfl rfl rfl ?_)
  refine ws (st_po (po_assign rfl) rfl rfl rfl ?_)
  refine s_nil ?_
  refine at_then_wp ?_
  refine r_ret ?_
  refine at_ret2 rfl (rv_tmp rfl) (rv_tmp rfl) ⟨_, ⟨f', r, by rw [hgr], rfl, by rw [hgr]; exact ok, by rw [hgr]; exact hw, by rw [hgr]; exact hh, by rw [hgr]; exact hc, by rw [hgr]; exact hep, by rw [he]; exact hep, hg, by rw [hgr]; exact hro, by rw [hgr]; exact hv1⟩, ?_⟩
  try dsimp only [List.cons_append, List.nil_append, GridS.l, GridS.p, MeshS.l, MeshS.lF, MeshS.p, FinderS.l, FinderS.p, FinderS.lF, RouteS.l, RouteS.p, GridS.lT, RouteS.lT]
  exact ent
/-! ## two sectors in a row -/
def lineC : List Int := List.replicate 17 1
theorem line_opn {c : Int} : Opn lineC c ↔ 0 ≤ c ∧ c < 17 := by
  unfold Opn lineC
  constructor
  · rintro ⟨h1, h2, _⟩; simp at h2; omega
  · rintro ⟨h1, h2⟩
    refine ⟨h1, by simp; omega, ?_⟩
    rw [gAt_get (by simp; omega)]
    show ¬ (List.replicate 17 (1 : Int))[c.toNat]'(by simp; omega) = 255
    rw [List.getElem_replicate]; decide
theorem line_flat {g : GridS} (ok : GridOk g) (hw : g.w = 17) (hh : g.h = 1) (hc : g.c = lineC) {c : Int} (h : 0 ≤ c ∧ c < 17) : flD g 0 c = c := by
  have hI : INF = 1099511627776 := rfl
  have his : ∀ {c : Int}, IsC 17 1 c ↔ 0 ≤ c ∧ c < 17 := fun {c} => ⟨fun k => by have := k.2; omega, fun k => ⟨by decide, by omega⟩⟩
  have hop : ∀ {c : Int}, OpC g.w g.h g.c c ↔ 0 ≤ c ∧ c < 17 := fun {c} => by
    rw [hw, hh, hc]; exact ⟨fun k => line_opn.1 k.1, fun k => ⟨line_opn.2 k, his.2 k⟩⟩
  have hco : ∀ {m : Int}, 0 ≤ m ∧ m < 17 → gAt g.c m = 1 := fun {m} k => by
    rw [hc, gAt_get (by unfold lineC; simp; omega)]
    show (List.replicate 17 (1 : Int))[m.toNat]'(by simp; omega) = 1
    rw [List.getElem_replicate]
  have hD : IsD g.w g.h g.c (OpC g.w g.h g.c) (srcT g.c 0) (fun c => if 0 ≤ c ∧ c < 17 then c else INF) := by
    refine ⟨fun c hn => if_neg (fun k => hn (hop.2 k)), fun c => ?_, fun c k hs => ?_, fun c m h1 h2 ⟨s, hs, e⟩ _ => ?_, fun c => ?_⟩
    · split <;> omega
    · obtain ⟨_, rfl, rfl⟩ := hs; simp
    · rw [hop] at h1 h2
      rw [if_pos h1, if_pos h2, hco h2]
      rw [hw, hh] at e
      have := (step_ok (his.2 h1) hs.1 (by omega)).2 (by omega)
      rw [e] at this
      have hd : dx s ≤ 1 ∧ -1 ≤ dx s := by unfold dx; split <;> (try split) <;> omega
      have e3 := this.2.1
      rw [Int.emod_eq_of_lt h1.1 h1.2, Int.emod_eq_of_lt h2.1 h2.2] at e3
      omega
    · by_cases k : 0 ≤ c ∧ c < 17
      · rw [if_pos k]
        by_cases e : c = 0
        · exact .inr (.inl ⟨by rw [hc]; exact line_opn.2 (by omega), e, e⟩)
        · refine .inr (.inr ⟨c - 1, hop.2 (by omega), ⟨3, by omega, ?_⟩, ?_⟩)
          · rw [hw, hh, (step_val (his.2 k)).2.2.2, if_pos (by rw [Int.emod_eq_of_lt k.1 k.2]; omega)]
          · rw [if_pos (by omega), hco (by omega)]; omega
      · rw [if_neg k]; exact .inl rfl
  rw [← fl_eq ok hD c]
  exact if_pos h
theorem line_made : MadeOk 17 1 lineC := ⟨by omega, by omega, by simp [lineC], fun x hx => by have := List.eq_of_mem_replicate hx; omega⟩
theorem line_seeds {g : GridS} (ok : GridOk g) {r : RouteS} (hw : g.w = 17) (hh : g.h = 1) (hc : g.c = lineC) (hr : RouteOk g r) (hg : r.goal = 0) : seedsG g.w g.h g.c (atN r) r.goal 1 = [⟨0, 3, 16⟩] := by
  have hn : Nd g.w g.h g.c 15 := by
    rw [hw, hh, hc]
    exact ⟨⟨line_opn.2 (by omega), by decide⟩, 1, by omega, by decide, by decide⟩
  have ha : atN r 15 = 15 := by
    rw [hr.at ok, if_pos hn, hg]; exact line_flat ok hw hh hc (by omega)
  have e1 : nodesN 17 1 lineC 1 = [16] := by decide +kernel
  have e2 : crossN 17 1 lineC 16 = [⟨15, 1⟩] := by decide +kernel
  have hI : INF = 1099511627776 := rfl
  unfold seedsG seedsO seedC
  rw [hw, hh, hc, hg, e1, if_neg (by decide +kernel)]
  simp only [List.flatMap_cons, List.flatMap_nil, List.append_nil, e2]
  unfold seedE
  dsimp only
  rw [ha, if_pos (by decide)]
  decide +kernel
theorem law16_told : Spec PP 14 #[] [] (fun v M => v = .bool true ∧ M = []) := by
  refine spec_of (Go.Proofs.Tryz.func14) rfl rfl rfl (by exact fc_enters_14) ?_
  intro g F
  try dsimp only [List.cons_append, List.nil_append, GridS.l, GridS.p, MeshS.l, MeshS.lF, MeshS.p, FinderS.l, FinderS.p, FinderS.lF, RouteS.l, RouteS.p, GridS.lT, RouteS.lT]
  refine r_seq ?_
  refine r_reg ?_
  refine ws (st_po (po_assign rfl) rfl rfl rfl ?_)
  refine s_nil ?_
  refine at_then_wp ?_
  refine r_seq ?_
  refine r_reg ?_
  refine ws (st_xo (xo_make eB (0) rfl rfl (by exact fc_slice_22_5_1) (by exact fc_elem_5_1_1) (by exact fc_zero_5) rfl (by first | omega | (simp only [List.length_nil, List.length_cons, List.length_append, List.length_replicate, List.length_set, List.length_map, List.length_take, List.length_drop]; omega)) (by first | omega | (simp only [List.length_nil, List.length_cons, List.length_append, List.length_replicate, List.length_set, List.length_map, List.length_take, List.length_drop]; omega)) (by first | omega | (simp only [List.length_nil, List.length_cons, List.length_append, List.length_replicate, List.length_set, List.length_map, List.length_take, List.length_drop]; omega))) rfl rfl rfl ?_)
  rintro v5 _ rfl
  refine ws (st_po (po_build1 rfl (by exact fc_zero_24) (by exact fc_places_24_0_1_2) (by exact fc_info_24) rfl) rfl rfl rfl ?_)
  refine ws (st_xo (xo_alloc (by exact fc_zero_24)) rfl rfl rfl ?_)
  rintro _ _ ⟨b1, rfl, rfl⟩
  refine ws (st_so (so_storea1 rfl rfl (by exact fc_agg_24_3) rfl rfl) rfl rfl ?_)
  refine s_nil ?_
  refine at_then_wp ?_
  refine r_seq ?_
  refine r_seq ?_
  refine r_reg ?_
  refine ws (st_po (po_assign rfl) rfl rfl rfl ?_)
  refine s_nil ?_
  refine at_then_wp ?_
  refine r_block ?_
  rw [show (17 : Int).toNat = 17 from rfl, fill2_0 1 0]
  refine r_loop (S := Nat) (fun k => [(2, .int .i64 k)]) [(1, _)] (fun k => [Blk b1 24 [.int .i64 17, .int .i64 1, v5], Sl eB v5 (fill2 1 0 17 k), F]) (fun k => k ≤ 17) (fun k => 17 - k) (0) (And.intro rfl (trivial)) (And.intro rfl (trivial)) (by omega) ent ?_
  rintro k hk
  try dsimp only [List.cons_append, List.nil_append, GridS.l, GridS.p, MeshS.l, MeshS.lF, MeshS.p, FinderS.l, FinderS.p, FinderS.lF, RouteS.l, RouteS.p, GridS.lT, RouteS.lT]
  refine r_seq ?_
  refine r_seq ?_
  refine r_reg ?_
  refine ws (st_po (po_move rfl) rfl rfl rfl ?_)
  refine ws (st_po (po_lt rfl rfl) rfl rfl rfl ?_)
  refine s_nil ?_
  refine at_then_wp ?_
  first | refine r_cond_not rfl ?_ ?_ | refine r_cond_dec rfl ?_ ?_ | refine r_cond rfl ?_ ?_
  · intro hlt
    have hll := fill2_len (1 : Int) 0 hk
    refine r_skip ?_
    refine at_then_wp ?_
    refine r_seq ?_
    refine r_block ?_
    refine r_reg ?_
    refine ws (st_po (po_faddr rfl (by exact fc_field_24_2_2)) rfl rfl rfl ?_)
    refine ws (st_po (po_load rfl (by exact fc_flat_22) (by rfl)) rfl rfl rfl ?_)
    refine ws (st_po (po_move rfl) rfl rfl rfl ?_)
    refine ws (st_po (po_iaddr rfl rfl (by exact fc_slice_22_5_1) (by first | omega | (simp only [List.length_nil, List.length_cons, List.length_append, List.length_replicate, List.length_set, List.length_map, List.length_take, List.length_drop]; omega)) (by first | omega | (simp only [List.length_nil, List.length_cons, List.length_append, List.length_replicate, List.length_set, List.length_map, List.length_take, List.length_drop]; omega))) rfl rfl rfl ?_)
    refine ws (st_so (so_store_sl rfl rfl (List.getElem?_eq_getElem (by first | omega | (simp only [List.length_nil, List.length_cons, List.length_append, List.length_replicate, List.length_set, List.length_map, List.length_take, List.length_drop]; omega))) (by exact fc_flat_5) (by decide) (by rfl) (by rfl)) rfl rfl ?_)
    refine s_nil ?_
    refine at_block_normal ?_
    refine at_then_wp ?_
    refine r_reg ?_
    refine ws (st_po (po_move rfl) rfl rfl rfl ?_)
    refine ws (st_po (po_add' rfl rfl (by omega) (by omega)) rfl rfl rfl ?_)
    refine ws (st_po (po_assign rfl) rfl rfl rfl ?_)
    refine s_nil ?_
    simp only [Int.toNat_natCast]
    rw [fill2_set _ _ (by omega)]
    exact at_again (k + 1) (And.intro rfl (trivial)) (And.intro rfl (trivial)) (by omega) (by omega) ent
  · intro hlt
    rw [show k = 17 by omega, fill2_n, show List.replicate 17 (1 : Int) = lineC from rfl]
    refine r_exit ?_
    refine at_then_exit ?_
    refine at_then_exit ?_
    refine at_block_here ?_
    refine at_then_wp ?_
    refine r_seq ?_
    refine r_reg ?_
    refine ws (st_po (po_loada rfl (by exact fc_agg_24_3) (by rfl)) rfl rfl rfl ?_)
    refine ws (st_call (co_fn rfl rfl) (law16_found 17 1 v5 lineC line_made 0 (by decide)) (by infer_instance) rfl rfl rfl ?_)
    rintro v17 _ ⟨f, r, rfl, rfl, ok, hw, hh, hc, hep, hre, hg, hro, hvs⟩
    try dsimp only [List.cons_append, List.nil_append, GridS.l, GridS.p, MeshS.l, MeshS.lF, MeshS.p, FinderS.l, FinderS.p, FinderS.lF, RouteS.l, RouteS.p, GridS.lT, RouteS.lT]
    have hse := line_seeds ok hw hh hc hro hg
    refine ws (st_po (po_move rfl) rfl rfl rfl ?_)
    refine ws (st_po (po_extract rfl rfl) rfl rfl rfl ?_)
    refine ws (st_po (po_extract rfl rfl) rfl rfl rfl ?_)
    refine ws (st_po (po_assign rfl) rfl rfl rfl ?_)
    refine ws (st_po (po_assign rfl) rfl rfl rfl ?_)
    refine s_nil ?_
    refine at_then_wp ?_
    refine r_seq ?_
    refine r_reg ?_
    refine ws (st_po (po_move rfl) rfl rfl rfl ?_)
    refine ws (st_po (po_pne rfl rfl (by exact fc_ptr_27)) rfl rfl rfl ?_)
    refine ws (st_po (po_bt (po_move rfl) (rfl)) rfl rfl rfl ?_)
    refine ws (st_po (po_move rfl) rfl rfl rfl ?_)
    refine ws (st_po (po_move rfl) rfl rfl rfl ?_)
    refine ws (st_call (co_fn rfl rfl) (inject_Seeds f.m.g ok r hro.rng (by rw [hre, hep]) (by rw [hg, hw, hh]; decide) 1) (by infer_instance) rfl rfl rfl ?_)
    rintro v25 _ ⟨ys, rfl, hp, hs⟩
    try dsimp only [List.cons_append, List.nil_append, GridS.l, GridS.p, MeshS.l, MeshS.lF, MeshS.p, FinderS.l, FinderS.p, FinderS.lF, RouteS.l, RouteS.p, GridS.lT, RouteS.lT]
    rw [hse, List.perm_singleton] at hp
    subst hp
    refine ws (st_po (po_build1 rfl (by exact fc_zero_45) (by exact fc_places_45_0_1_2) (by exact fc_info_45) rfl) rfl rfl rfl ?_)
    refine ws (st_xo (xo_bslice eS [⟨0, 3, 16⟩] rfl (by exact fc_slice_32_45_3) (by exact fc_elem_45_3_24) ⟨rfl, rfl, trivial⟩ rfl (by decide)) rfl rfl rfl ?_)
    rintro v27 _ rfl
    refine ws (st_call (co_fn rfl rfl) (ref_SameSeeds v25 v27 [⟨0, 3, 16⟩] [⟨0, 3, 16⟩] (by simp)) (by infer_instance) rfl rfl rfl ?_)
    rintro v28 _ ⟨rfl, rfl⟩
    try dsimp only [List.cons_append, List.nil_append, GridS.l, GridS.p, MeshS.l, MeshS.lF, MeshS.p, FinderS.l, FinderS.p, FinderS.lF, RouteS.l, RouteS.p, GridS.lT, RouteS.lT]
    refine ws (st_po (po_pick_t rfl rfl) rfl rfl rfl ?_)
    refine ws (st_po (po_assign rfl) rfl rfl rfl ?_)
    refine s_nil ?_
    refine at_then_wp ?_
    refine r_ret ?_
    refine at_ret1 rfl (rv_tmp rfl) ⟨_, ⟨by simp, rfl⟩, ?_⟩
    try dsimp only [List.cons_append, List.nil_append, GridS.l, GridS.p, MeshS.l, MeshS.lF, MeshS.p, FinderS.l, FinderS.p, FinderS.lF, RouteS.l, RouteS.p, GridS.lT, RouteS.lT]
    exact ent

end Hd
end
section
namespace Hd
set_option maxRecDepth 100000
open Go

theorem made_cell {w h : Int} {C : List Int} (k : MadeOk w h C) (goal : Int) : IsC w h (0 + goal % ((C.length : Int) - 1 - 0 + 1)) := by
  have hm := may_mul k.may.1
  have hl := k.len
  have := Int.emod_nonneg goal (show (C.length : Int) - 1 - 0 + 1 ≠ 0 by omega)
  have := Int.emod_lt_of_pos goal (show (0 : Int) < (C.length : Int) - 1 - 0 + 1 by omega)
  exact ⟨k.may.1, by omega, by omega⟩
theorem made_sec {w h : Int} {C : List Int} (k : MadeOk w h C) (sector : Int) : IsS w h (0 + sector % ((secsN w h).1 * (secsN w h).2 - 1 - 0 + 1)) := by
  have ha := acr_pos k.may.1
  have hs : (secsN w h).1 * (secsN w h).2 = acrN w * acrN h := by rw [secsN, if_pos k.may.1]
  have hp : 1 ≤ acrN w * acrN h := Int.mul_pos (by omega) (by omega)
  rw [hs]
  have := Int.emod_nonneg sector (show acrN w * acrN h - 1 - 0 + 1 ≠ 0 by omega)
  have := Int.emod_lt_of_pos sector (show (0 : Int) < acrN w * acrN h - 1 - 0 + 1 by omega)
  exact ⟨k.may.1, by omega, by omega⟩
theorem made_cnt {w h : Int} {C : List Int} (k : MadeOk w h C) : 1 ≤ (secsN w h).1 * (secsN w h).2 ∧ (secsN w h).1 * (secsN w h).2 ≤ 1048576 := by
  have ha := acr_pos k.may.1
  have hs : (secsN w h).1 * (secsN w h).2 = acrN w * acrN h := by rw [secsN, if_pos k.may.1]
  have hp : 1 ≤ acrN w * acrN h := Int.mul_pos (by omega) (by omega)
  have := secs_mul w h
  omega
theorem law16_Elder (K : HP) (w h : Int) (cv : Value) (c : List Int) [Rd [K] cv Int eB c] (hc : ∀ x ∈ c, 0 ≤ x ∧ x ≤ 255) (goal sector lc lk : Int) :
    Spec PP 5 #[.int .i64 w, .int .i64 h, cv, .int .i64 goal, .int .i64 sector, .agg #[.int .i64 lc, .int .i64 lk]] [K] (fun v M => v = .bool true ∧ M = [K]) := by
  refine spec_of (Go.Proofs.Tryz.func5) rfl rfl rfl (by exact fc_enters_5) ?_
  intro g F
  try dsimp only [List.cons_append, List.nil_append, GridS.l, GridS.p, MeshS.l, MeshS.lF, MeshS.p, FinderS.l, FinderS.p, FinderS.lF, RouteS.l, RouteS.p, GridS.lT, RouteS.lT]
  refine r_seq ?_
  refine r_reg ?_
  refine ws (st_xo (xo_box rfl rfl) rfl rfl rfl ?_)
  rintro _ _ ⟨b11, rfl, rfl⟩
  refine ws (st_po (po_assign rfl) rfl rfl rfl ?_)
  refine s_nil ?_
  refine at_then_wp ?_
  refine r_seq ?_
  refine r_reg ?_
  refine ws (st_po (po_move rfl) rfl rfl rfl ?_)
  refine ws (st_po (po_move rfl) rfl rfl rfl ?_)
  refine ws (st_po (po_move rfl) rfl rfl rfl ?_)
  refine ws (st_call (co_fn rfl rfl) (ref_Made K w h cv c hc) (by infer_instance) rfl rfl rfl ?_)
  rintro v20 _ ⟨W, H, mv, C, rfl, rfl, hm⟩
  try dsimp only [List.cons_append, List.nil_append, GridS.l, GridS.p, MeshS.l, MeshS.lF, MeshS.p, FinderS.l, FinderS.p, FinderS.lF, RouteS.l, RouteS.p, GridS.lT, RouteS.lT]
  have hmm := may_mul hm.may.1
  have hml := hm.len
  refine ws (st_xo (xo_alloc (by exact fc_zero_24)) rfl rfl rfl ?_)
  rintro _ _ ⟨b13, rfl, rfl⟩
  refine ws (st_so (so_storea1 rfl rfl (by exact fc_agg_24_3) rfl rfl) rfl rfl ?_)
  refine s_nil ?_
  refine at_then_wp ?_
  refine r_seq ?_
  refine r_ord [] _ [(0, 0), (1, 1), (2, 1), (3, 0), (4, 0), (5, 1), (6, 2), (7, 2), (8, 1), (9, 1), (10, 1), (11, 1), (12, 1)] fc_mixed (by kernel_rfl) (fun _ h => h) ?_
  refine o_rd rfl (po_loada rfl (by exact fc_agg_24_3) (by rfl)) (by first | exact fun _ h => h | exact ent) rfl rfl rfl ?_
  refine o_fr rfl (po_move rfl) rfl rfl rfl ?_
  refine o_fr rfl (po_faddr rfl (by exact fc_field_24_2_2)) rfl rfl rfl ?_
  refine o_rd rfl (po_load rfl (by exact fc_flat_22) (by rfl)) (by first | exact fun _ h => h | exact ent) rfl rfl rfl ?_
  refine o_rd rfl (po_len rfl (by exact fc_slice_22_5_1)) (by first | exact fun _ h => h | exact ent) rfl rfl rfl ?_
  refine o_fr rfl (po_sub' rfl rfl (by omega) (by omega)) rfl rfl rfl ?_
  refine o_st rfl (st_call (co_fn rfl rfl) (ref_Within goal 0 ((C.length : Int) - 1) (by omega) (by omega) (by omega)) (by infer_instance) rfl rfl rfl ?_)
  rintro v28 _ ⟨rfl, rfl⟩
  try dsimp only [List.cons_append, List.nil_append, GridS.l, GridS.p, MeshS.l, MeshS.lF, MeshS.p, FinderS.l, FinderS.p, FinderS.lF, RouteS.l, RouteS.p, GridS.lT, RouteS.lT]
  refine ⟨fun _ => (by first | exact fun _ h => h | exact ent), ?_⟩
  refine o_st rfl (st_call (co_fn rfl rfl) (law16_found W H mv C hm _ (made_cell hm goal)) (by infer_instance) rfl rfl rfl ?_)
  rintro v29 _ ⟨f, r, rfl, rfl, ok, hw, hh, hcc, hep, hre, hg, hro, hvs⟩
  try dsimp only [List.cons_append, List.nil_append, GridS.l, GridS.p, MeshS.l, MeshS.lF, MeshS.p, FinderS.l, FinderS.p, FinderS.lF, RouteS.l, RouteS.p, GridS.lT, RouteS.lT]
  refine ⟨fun _ => (by first | exact fun _ h => h | exact ent), ?_⟩
  refine o_fr rfl (po_move rfl) rfl rfl rfl ?_
  refine o_fr rfl (po_extract rfl rfl) rfl rfl rfl ?_
  refine o_fr rfl (po_extract rfl rfl) rfl rfl rfl ?_
  refine o_fr rfl (po_assign rfl) rfl rfl rfl ?_
  refine o_fr rfl (po_assign rfl) rfl rfl rfl ?_
  refine o_nil ?_
  refine at_then_wp ?_
  refine r_seq ?_
  refine r_seq ?_
  refine r_ord [] [Blk b13 24 [.int .i64 W, .int .i64 H, mv], Blk b11 51 [.int .i64 lc, .int .i64 lk], Sl eB mv C] [(0, 1), (1, 1), (2, 1), (3, 1), (4, 1), (5, 0), (6, 1), (7, 0), (8, 0), (9, 1), (11, 1), (12, 0), (10, 2), (13, 2), (14, 2), (15, 1), (16, 1)] fc_mixed (by kernel_rfl) ent ?_
  refine o_fr rfl (po_move rfl) rfl rfl rfl ?_
  refine o_fr rfl (po_peq rfl rfl (by exact fc_ptr_27)) rfl rfl rfl ?_
  refine o_fr rfl (po_bf (po_move rfl) (rfl)) rfl rfl rfl ?_
  refine o_fr rfl (po_move rfl) rfl rfl rfl ?_
  refine o_fr rfl (po_faddr rfl (by exact fc_field_51_0_0)) rfl rfl rfl ?_
  refine o_rd rfl (po_load rfl (by exact fc_flat_3) (by rfl)) (by first | exact fun _ h => h | exact ent) rfl rfl rfl ?_
  refine o_fr rfl (po_faddr rfl (by exact fc_field_24_2_2)) rfl rfl rfl ?_
  refine o_rd rfl (po_load rfl (by exact fc_flat_22) (by rfl)) (by first | exact fun _ h => h | exact ent) rfl rfl rfl ?_
  refine o_rd rfl (po_len rfl (by exact fc_slice_22_5_1)) (by first | exact fun _ h => h | exact ent) rfl rfl rfl ?_
  refine o_fr rfl (po_sub' rfl rfl (by omega) (by omega)) rfl rfl rfl ?_
  refine o_fr rfl (po_faddr rfl (by exact fc_field_51_1_1)) rfl rfl rfl ?_
  refine o_rd rfl (po_load rfl (by exact fc_flat_3) (by rfl)) (by first | exact fun _ h => h | exact ent) rfl rfl rfl ?_
  refine o_st rfl (st_call (co_fn rfl rfl) (ref_Within lc 0 ((C.length : Int) - 1) (by omega) (by omega) (by omega)) (by infer_instance) rfl rfl rfl ?_)
  rintro v42 _ ⟨rfl, rfl⟩
  try dsimp only [List.cons_append, List.nil_append, GridS.l, GridS.p, MeshS.l, MeshS.lF, MeshS.p, FinderS.l, FinderS.p, FinderS.lF, RouteS.l, RouteS.p, GridS.lT, RouteS.lT]
  refine ⟨fun _ => (by first | exact fun _ h => h | exact ent), ?_⟩
  refine o_st rfl (st_call (co_fn rfl rfl) (ref_Within lk 1 255 (by omega) (by omega) (by omega)) (by infer_instance) rfl rfl rfl ?_)
  rintro v45 _ ⟨rfl, rfl⟩
  try dsimp only [List.cons_append, List.nil_append, GridS.l, GridS.p, MeshS.l, MeshS.lF, MeshS.p, FinderS.l, FinderS.p, FinderS.lF, RouteS.l, RouteS.p, GridS.lT, RouteS.lT]
  refine ⟨fun _ => (by first | exact fun _ h => h | exact ent), ?_⟩
  have hlc := made_cell hm lc
  refine o_st rfl (st_call (co_fn rfl rfl) (grid_Edit f.m.g (0 + lc % ((C.length : Int) - 1 - 0 + 1)) (1 + lk % (255 - 1 + 1)) ok (by rw [hcc]; have := hlc.2; omega) (by omega) (by omega)) (by infer_instance) rfl rfl rfl ?_)
  rintro v46 _ ⟨rfl, rfl⟩
  try dsimp only [List.cons_append, List.nil_append, GridS.l, GridS.p, MeshS.l, MeshS.lF, MeshS.p, FinderS.l, FinderS.p, FinderS.lF, RouteS.l, RouteS.p, GridS.lT, RouteS.lT]
  refine ⟨fun _ => (by first | exact fun _ h => h | exact ent), ?_⟩
  refine o_fr rfl (po_ne rfl rfl) rfl rfl rfl ?_
  refine o_fr rfl (po_pick_f rfl rfl) rfl rfl rfl ?_
  refine o_nil ?_
  refine at_then_wp ?_
  first | refine r_dec_f rfl (by simp) ?_ | refine r_nd_f rfl (by simp) ?_ | refine r_cond_f rfl (by simp) ?_
  have hcn := made_cnt hm
  refine r_skip ?_
  refine at_then_wp ?_
  refine r_seq ?_
  refine r_reg ?_
  refine ws (st_po (po_move rfl) rfl rfl rfl ?_)
  refine ws (st_po (po_faddr rfl (by exact fc_field_24_0_0)) rfl rfl rfl ?_)
  refine ws (st_po (po_load rfl (by exact fc_flat_3) (by rfl)) rfl rfl rfl ?_)
  refine ws (st_po (po_faddr rfl (by exact fc_field_24_1_1)) rfl rfl rfl ?_)
  refine ws (st_po (po_load rfl (by exact fc_flat_3) (by rfl)) rfl rfl rfl ?_)
  refine ws (st_call (co_fn rfl rfl) (ref_Count W H) (by infer_instance) rfl rfl rfl ?_)
  rintro v54 _ ⟨rfl, rfl⟩
  try dsimp only [List.cons_append, List.nil_append, GridS.l, GridS.p, MeshS.l, MeshS.lF, MeshS.p, FinderS.l, FinderS.p, FinderS.lF, RouteS.l, RouteS.p, GridS.lT, RouteS.lT]
  refine ws (st_po (po_sub' rfl rfl (by omega) (by omega)) rfl rfl rfl ?_)
  refine ws (st_call (co_fn rfl rfl) (ref_Within sector 0 ((secsN W H).1 * (secsN W H).2 - 1) (by omega) (by omega) (by omega)) (by infer_instance) rfl rfl rfl ?_)
  rintro v56 _ ⟨rfl, rfl⟩
  try dsimp only [List.cons_append, List.nil_append, GridS.l, GridS.p, MeshS.l, MeshS.lF, MeshS.p, FinderS.l, FinderS.p, FinderS.lF, RouteS.l, RouteS.p, GridS.lT, RouteS.lT]
  refine ws (st_po (po_assign rfl) rfl rfl rfl ?_)
  refine s_nil ?_
  refine at_then_wp ?_
  refine r_seq ?_
  refine r_reg ?_
  refine ws (st_call (co_fn rfl rfl) (law16_told) (by infer_instance) rfl rfl rfl ?_)
  rintro v57 _ ⟨rfl, rfl⟩
  try dsimp only [List.cons_append, List.nil_append, GridS.l, GridS.p, MeshS.l, MeshS.lF, MeshS.p, FinderS.l, FinderS.p, FinderS.lF, RouteS.l, RouteS.p, GridS.lT, RouteS.lT]
  refine ws (st_po (po_bt (po_move rfl) (rfl)) rfl rfl rfl ?_)
  refine ws (st_po (po_move rfl) rfl rfl rfl ?_)
  refine ws (st_po (po_move rfl) rfl rfl rfl ?_)
  refine ws (st_po (po_move rfl) rfl rfl rfl ?_)
  refine ws (st_call (co_fn rfl rfl) (inject_Seeds_ep (f.m.g.edit (0 + lc % ((C.length : Int) - 1 - 0 + 1)) (1 + lk % (255 - 1 + 1))) r (by show r.ep ≠ f.m.g.ep + 1; omega) _) (by infer_instance) rfl rfl rfl ?_)
  rintro v62 _ ⟨rfl, rfl⟩
  try dsimp only [List.cons_append, List.nil_append, GridS.l, GridS.p, MeshS.l, MeshS.lF, MeshS.p, FinderS.l, FinderS.p, FinderS.lF, RouteS.l, RouteS.p, GridS.lT, RouteS.lT]
  refine ws (st_po (po_len rfl (by exact fc_slice_32_45_3)) rfl rfl rfl ?_)
  refine ws (st_po (po_eq rfl rfl) rfl rfl rfl ?_)
  refine ws (st_po (po_pick_t rfl rfl) rfl rfl rfl ?_)
  refine ws (st_po (po_bt (po_move rfl) (rfl)) rfl rfl rfl ?_)
  refine ws (st_po (po_move rfl) rfl rfl rfl ?_)
  refine ws (st_po (po_move rfl) rfl rfl rfl ?_)
  refine ws (st_call (co_fn rfl rfl) (inject_Seeds_g r (by omega) _) (by infer_instance) rfl rfl rfl ?_)
  rintro v69 _ ⟨rfl, rfl⟩
  try dsimp only [List.cons_append, List.nil_append, GridS.l, GridS.p, MeshS.l, MeshS.lF, MeshS.p, FinderS.l, FinderS.p, FinderS.lF, RouteS.l, RouteS.p, GridS.lT, RouteS.lT]
  refine ws (st_po (po_len rfl (by exact fc_slice_32_45_3)) rfl rfl rfl ?_)
  refine ws (st_po (po_eq rfl rfl) rfl rfl rfl ?_)
  refine ws (st_po (po_pick_t rfl rfl) rfl rfl rfl ?_)
  refine ws (st_po (po_bt (po_move rfl) (rfl)) rfl rfl rfl ?_)
  refine ws (st_po (po_move rfl) rfl rfl rfl ?_)
  refine ws (st_po (po_move rfl) rfl rfl rfl ?_)
  refine ws (st_call (co_fn rfl rfl) (inject_Seeds_r (f.m.g.edit (0 + lc % ((C.length : Int) - 1 - 0 + 1)) (1 + lk % (255 - 1 + 1))) _) (by infer_instance) rfl rfl rfl ?_)
  rintro v76 _ ⟨rfl, rfl⟩
  try dsimp only [List.cons_append, List.nil_append, GridS.l, GridS.p, MeshS.l, MeshS.lF, MeshS.p, FinderS.l, FinderS.p, FinderS.lF, RouteS.l, RouteS.p, GridS.lT, RouteS.lT]
  refine ws (st_po (po_len rfl (by exact fc_slice_32_45_3)) rfl rfl rfl ?_)
  refine ws (st_po (po_eq rfl rfl) rfl rfl rfl ?_)
  refine ws (st_po (po_pick_t rfl rfl) rfl rfl rfl ?_)
  refine ws (st_po (po_assign rfl) rfl rfl rfl ?_)
  refine s_nil ?_
  refine at_then_wp ?_
  refine r_ret ?_
  refine at_ret1 rfl (rv_tmp rfl) ⟨_, ⟨rfl, rfl⟩, ?_⟩
  try dsimp only [List.cons_append, List.nil_append, GridS.l, GridS.p, MeshS.l, MeshS.lF, MeshS.p, FinderS.l, FinderS.p, FinderS.lF, RouteS.l, RouteS.p, GridS.lT, RouteS.lT]
  exact ent
end Hd
end
section
namespace Hd
open Go Go.ChangeShapes Go.WideShapes Go.ChangeAt Go.RowKit
/-! ## from the arguments as they lie to what the walks are told -/
theorem open_bytes {H : Type} {enc : TypeId × Value → H} {P : Program} {W : World} {r : Reach} {b0 : Nat} {t e : TypeId} {v : Value} {d : DataW H} {p : List MemPlace} (ht : P.underlying t = some (.slice e)) (he : P.underlying e = some (.int .u8)) (hc : P.cellsOf e = 1)
    (hv : Value.okWide P W r b0 t v) (h : DataW.Trod enc P W 0 (fun _ => true) true t v d p) : ∃ c : List Int, Reads eB v c (frag W) ∧ ∀ x ∈ c, 0 ≤ x ∧ x ≤ 255 := by
  obtain ⟨a, len, cap, rfl⟩ := okWide_slice ht hv
  obtain ⟨fuel, hf⟩ := h
  rcases open_ints ht he hc hf with ⟨hcs, _⟩ | ⟨x, l, c, zs, hcs, _, hl, hm, hz, _, hcell, hwz⟩
  · simp [Value.cells] at hcs
    obtain ⟨rfl, rfl, rfl⟩ := hcs
    exact ⟨[], .inl ⟨rfl, rfl⟩, by simp⟩
  · simp [Value.cells] at hcs
    obtain ⟨rfl, rfl, rfl⟩ := hcs
    have hsp : x.spot = none := by
      simp only [Value.okWide, ht, Cell.okWide, Cell.ok] at hv
      exact hv.2.2.2.1
    obtain ⟨b, off, spot⟩ := x
    dsimp only at hsp
    subst hsp
    have hzl : zs.length = cap := by simpa using hz
    have htl : (zs.take len).length = len := by rw [List.length_take]; omega
    refine ⟨zs.take len, .inr ⟨b, off, cap, by rw [htl], by omega, fun j u hu => ?_⟩, fun x hx => ?_⟩
    · have hj : j < len := by
        have := lt_of_get hu
        rw [flat_len, htl, show eB.k = 1 from rfl, Nat.mul_one] at this
        exact this
      have hzj : zs[j]? = some (zs.getD j 0) := by rw [List.getD_eq_getElem?_getD, List.getElem?_eq_getElem (by omega)]; rfl
      have hu2 : ((zs.take len).flatMap eB.f)[j * eB.k + 0]? = (eB.f (zs.getD j 0))[0]? := flat_get eB (zs.take len) j 0 (zs.getD j 0) (by rw [List.getElem?_take, if_pos hj, hzj]) (by decide)
      have e1 : eB.k = 1 := rfl
      rw [e1, Nat.mul_one, Nat.add_zero, hu] at hu2
      have hce := hcell j (by omega)
      have hu3 : u = .int .u8 (zs.getD j 0) := Option.some.inj hu2
      rw [add_off] at hce
      simp only [World.cell?] at hce
      show ∃ c T fr, W.heap[b]? = some (.cells c T fr) ∧ c[off + j]? = some u
      cases hb : W.heap[b]? with
      | none => simp [hb] at hce
      | some o =>
        cases o <;> simp [hb] at hce
        rename_i c T fr
        exact ⟨c, T, fr, rfl, by rw [hu3]; exact hce⟩
    · have := hwz x (List.mem_of_mem_take hx)
      simpa [Lit.wf, IntKind.min, IntKind.max, IntKind.signed, IntKind.bits] using this
theorem spec_top {f : FuncId} {args : Array Value} {W : World} {cv : Value} {c : List Int} (h : Spec PP f args [Ins (frag W) eB cv c] (fun v M => v = .bool true ∧ M = [Ins (frag W) eB cv c])) (hr : Reads eB cv c (frag W)) :
    Calls PP f args W fun e w' => e = .returned (.bool true) ∧ Below W.heap.size W w' := by
  refine (h.calls ⟨W.os, W.tape, W.output, W.drawn⟩ (fun _ => True) W ⟨rfl, rfl, rfl, Nat.le_refl _, ?_⟩).mono ?_
  · exact ⟨frag W, fun _ => none, fun b => .inr ⟨rfl, rfl⟩, ⟨fun b o e => e, hr⟩, _, _, fun b => .inr ⟨rfl, rfl⟩, trivial, trivial⟩
  · rintro e w' ⟨v, M, rfl, ⟨rfl, rfl⟩, fw⟩
    exact ⟨rfl, Fit.below rfl (fun h k => k.1) fw⟩
end Hd
end
section
namespace Hd
set_option maxRecDepth 100000
open Go

/-- 8.1, of one seed, as the document says it -/
def RefSd (t : Tile) (s : Seed) : Prop := (0 ≤ s.cell ∧ s.cell < t.c.length) ∧ gAt t.c s.cell ≠ 255 ∧ (0 ≤ s.key ∧ s.key ≤ 1073741824) ∧ (0 ≤ s.side ∧ s.side ≤ 4) ∧ (s.side ≠ 4 → stepN t.w t.h s.cell s.side < 0)
theorem ref_MaySeeds (tc lv : Value) (t : Tile) (l : List Seed) (hm : MayT t) (hl : t.c.length ≤ 2^30) (hll : l.length ≤ 2^30) (hs : ∀ s ∈ l, RefSd t s) :
    Spec PP 22 #[tileV tc t, lv] [Sl eB tc t.c, Sl eS lv l] (fun v M => v = .bool true ∧ M = [Sl eB tc t.c, Sl eS lv l]) := by
  refine spec_of (Go.Proofs.Tryz.func22) rfl rfl rfl (by exact fc_enters_22) ?_
  intro g F
  try dsimp only [List.cons_append, List.nil_append, GridS.l, GridS.p, MeshS.l, MeshS.lF, MeshS.p, FinderS.l, FinderS.p, FinderS.lF, RouteS.l, RouteS.p, GridS.lT, RouteS.lT]
  refine r_seq ?_
  refine r_reg ?_
  refine ws (st_xo (xo_box rfl rfl) rfl rfl rfl ?_)
  rintro _ _ ⟨b2, rfl, rfl⟩
  refine ws (st_po (po_assign rfl) rfl rfl rfl ?_)
  refine s_nil ?_
  refine at_then_wp ?_
  refine r_seq ?_
  refine r_seq ?_
  refine r_reg ?_
  refine ws (st_po (po_loada rfl (by exact fc_agg_41_3) (by rfl)) rfl rfl rfl ?_)
  refine ws (st_call (co_fn rfl rfl) (ref_MayTile tc t hl) (by infer_instance) rfl rfl rfl ?_)
  rintro v8 _ ⟨rfl, rfl⟩
  try dsimp only [List.cons_append, List.nil_append, GridS.l, GridS.p, MeshS.l, MeshS.lF, MeshS.p, FinderS.l, FinderS.p, FinderS.lF, RouteS.l, RouteS.p, GridS.lT, RouteS.lT]
  refine ws (st_po (po_not rfl) rfl rfl rfl ?_)
  refine s_nil ?_
  refine at_then_wp ?_
  first | refine r_dec_f rfl (by simp [hm]) ?_ | refine r_nd_f rfl (by simp [hm]) ?_ | refine r_cond_f rfl (by simp [hm]) ?_
  refine r_skip ?_
  refine at_then_wp ?_
  refine r_seq ?_
  refine r_seq ?_
  refine r_reg ?_
  refine ws (st_po (po_assign rfl) rfl rfl rfl ?_)
  refine s_nil ?_
  refine at_then_wp ?_
  refine r_block ?_
  refine r_loop (S := Nat) (fun k => [(5, .int .i64 k)]) [(1, _), (2, _)] (fun k => [Sl eB tc t.c, Sl eS lv l, Blk b2 41 [.int .i64 t.w, .int .i64 t.h, tc], F]) (fun k => k ≤ l.length) (fun k => l.length - k) (0) (And.intro rfl (And.intro rfl (trivial))) (And.intro rfl (trivial)) (by omega) ent ?_
  rintro k hk
  try dsimp only [List.cons_append, List.nil_append, GridS.l, GridS.p, MeshS.l, MeshS.lF, MeshS.p, FinderS.l, FinderS.p, FinderS.lF, RouteS.l, RouteS.p, GridS.lT, RouteS.lT]
  refine r_seq ?_
  refine r_seq ?_
  refine r_reg ?_
  refine ws (st_po (po_move rfl) rfl rfl rfl ?_)
  refine ws (st_po (po_move rfl) rfl rfl rfl ?_)
  refine ws (st_po (po_len rfl (by exact fc_slice_32_45_3)) rfl rfl rfl ?_)
  refine ws (st_po (po_lt rfl rfl) rfl rfl rfl ?_)
  refine s_nil ?_
  refine at_then_wp ?_
  first | refine r_cond_not rfl ?_ ?_ | refine r_cond_dec rfl ?_ ?_ | refine r_cond rfl ?_ ?_
  · intro hlt
    obtain ⟨s, hse⟩ : ∃ s, l[(k : Int).toNat]'(by omega) = s := ⟨_, rfl⟩
    have hr := hs s (hse ▸ List.getElem_mem _)
    unfold RefSd at hr
    have hg : gAt t.c s.cell = t.c[s.cell.toNat]'(by omega) := gAt_get (by omega)
    refine r_skip ?_
    refine at_then_wp ?_
    refine r_seq ?_
    refine r_block ?_
    refine r_seq ?_
    refine r_reg ?_
    refine ws (st_po (po_move rfl) rfl rfl rfl ?_)
    refine ws (st_po (po_move rfl) rfl rfl rfl ?_)
    refine ws (st_po (po_iaddr rfl rfl (by exact fc_slice_32_45_3) (by first | omega | (simp only [List.length_nil, List.length_cons, List.length_append, List.length_replicate, List.length_set, List.length_map, List.length_take, List.length_drop]; omega)) (by first | omega | (simp only [List.length_nil, List.length_cons, List.length_append, List.length_replicate, List.length_set, List.length_map, List.length_take, List.length_drop]; omega))) rfl rfl rfl ?_)
    refine ws (st_po (ld_eS rfl (List.getElem?_eq_getElem (by first | omega | (simp only [List.length_nil, List.length_cons, List.length_append, List.length_replicate, List.length_set, List.length_map, List.length_take, List.length_drop]; omega))) (by exact fc_agg_45_3)) rfl rfl rfl ?_)
    refine ws (st_xo (xo_alloc (by exact fc_zero_45)) rfl rfl rfl ?_)
    rintro _ _ ⟨b6, rfl, rfl⟩
    refine ws (st_so (so_storea1 rfl rfl (by exact fc_agg_45_3) rfl rfl) rfl rfl ?_)
    refine s_nil ?_
    refine at_then_wp ?_
    refine r_seq ?_
    refine r_seq ?_
    rw [hse]
    refine r_reg ?_
    refine ws (st_po (po_faddr rfl (by exact fc_field_45_0_0)) rfl rfl rfl ?_)
    refine ws (st_po (po_load rfl (by exact fc_flat_3) (by rfl)) rfl rfl rfl ?_)
    refine ws (st_po (po_faddr rfl (by exact fc_field_41_2_2)) rfl rfl rfl ?_)
    refine ws (st_po (po_load rfl (by exact fc_flat_22) (by rfl)) rfl rfl rfl ?_)
    refine ws (st_po (po_len rfl (by exact fc_slice_22_5_1)) rfl rfl rfl ?_)
    refine ws (st_po (po_sub' rfl rfl (by omega) (by omega)) rfl rfl rfl ?_)
    refine ws (st_call (co_fn rfl rfl) (ref_In s.cell 0 ((t.c.length : Int) - 1)) (by infer_instance) rfl rfl rfl ?_)
    rintro v26 _ ⟨rfl, rfl⟩
    try dsimp only [List.cons_append, List.nil_append, GridS.l, GridS.p, MeshS.l, MeshS.lF, MeshS.p, FinderS.l, FinderS.p, FinderS.lF, RouteS.l, RouteS.p, GridS.lT, RouteS.lT]
    refine ws (st_po (po_not rfl) rfl rfl rfl ?_)
    refine ws (st_po (po_bf (po_move rfl) (by rw [decide_eq_true (by omega)]; rfl)) rfl rfl rfl ?_)
    refine ws (st_po (po_faddr rfl (by exact fc_field_41_2_2)) rfl rfl rfl ?_)
    refine ws (st_po (po_load rfl (by exact fc_flat_22) (by rfl)) rfl rfl rfl ?_)
    refine ws (st_po (po_faddr rfl (by exact fc_field_45_0_0)) rfl rfl rfl ?_)
    refine ws (st_po (po_load rfl (by exact fc_flat_3) (by rfl)) rfl rfl rfl ?_)
    refine ws (st_po (po_iaddr rfl rfl (by exact fc_slice_22_5_1) (by first | omega | (simp only [List.length_nil, List.length_cons, List.length_append, List.length_replicate, List.length_set, List.length_map, List.length_take, List.length_drop]; omega)) (by first | omega | (simp only [List.length_nil, List.length_cons, List.length_append, List.length_replicate, List.length_set, List.length_map, List.length_take, List.length_drop]; omega))) rfl rfl rfl ?_)
    refine ws (st_po (po_load_sl rfl (List.getElem?_eq_getElem (by first | omega | (simp only [List.length_nil, List.length_cons, List.length_append, List.length_replicate, List.length_set, List.length_map, List.length_take, List.length_drop]; omega))) (by exact fc_flat_5) (by rfl)) rfl rfl rfl ?_)
    refine ws (st_po (po_eq rfl rfl) rfl rfl rfl ?_)
    refine ws (st_po (po_pick_f rfl rfl) rfl rfl rfl ?_)
    refine ws (st_po (po_bf (po_move rfl) (decide_eq_false (by rw [← hg]; exact hr.2.1))) rfl rfl rfl ?_)
    refine ws (st_po (po_faddr rfl (by exact fc_field_45_2_2)) rfl rfl rfl ?_)
    refine ws (st_po (po_load rfl (by exact fc_flat_3) (by rfl)) rfl rfl rfl ?_)
    refine ws (st_call (co_fn rfl rfl) (ref_In s.key 0 1073741824) (by infer_instance) rfl rfl rfl ?_)
    rintro v40 _ ⟨rfl, rfl⟩
    try dsimp only [List.cons_append, List.nil_append, GridS.l, GridS.p, MeshS.l, MeshS.lF, MeshS.p, FinderS.l, FinderS.p, FinderS.lF, RouteS.l, RouteS.p, GridS.lT, RouteS.lT]
    refine ws (st_po (po_not rfl) rfl rfl rfl ?_)
    refine ws (st_po (po_pick_f rfl rfl) rfl rfl rfl ?_)
    refine ws (st_po (po_bf (po_move rfl) (by rw [decide_eq_true (by omega)]; rfl)) rfl rfl rfl ?_)
    refine ws (st_po (po_faddr rfl (by exact fc_field_45_1_1)) rfl rfl rfl ?_)
    refine ws (st_po (po_load rfl (by exact fc_flat_3) (by rfl)) rfl rfl rfl ?_)
    refine ws (st_call (co_fn rfl rfl) (ref_In s.side 0 4) (by infer_instance) rfl rfl rfl ?_)
    rintro v46 _ ⟨rfl, rfl⟩
    try dsimp only [List.cons_append, List.nil_append, GridS.l, GridS.p, MeshS.l, MeshS.lF, MeshS.p, FinderS.l, FinderS.p, FinderS.lF, RouteS.l, RouteS.p, GridS.lT, RouteS.lT]
    refine ws (st_po (po_not rfl) rfl rfl rfl ?_)
    refine ws (st_po (po_pick_f rfl rfl) rfl rfl rfl ?_)
    refine s_nil ?_
    refine at_then_wp ?_
    first | refine r_dec_f rfl (by rw [decide_eq_true (by omega)]; simp) ?_ | refine r_nd_f rfl (by rw [decide_eq_true (by omega)]; simp) ?_ | refine r_cond_f rfl (by rw [decide_eq_true (by omega)]; simp) ?_
    refine r_skip ?_
    refine at_then_wp ?_
    refine r_seq ?_
    refine r_reg ?_
    refine ws (st_po (po_faddr rfl (by exact fc_field_45_1_1)) rfl rfl rfl ?_)
    refine ws (st_po (po_load rfl (by exact fc_flat_3) (by rfl)) rfl rfl rfl ?_)
    refine ws (st_po (po_ne rfl rfl) rfl rfl rfl ?_)
    by_cases h4 : s.side ≠ 4
    · skip
      refine ws (st_po (po_bt (po_move rfl) (decide_eq_true h4)) rfl rfl rfl ?_)
      refine ws (st_po (po_loada rfl (by exact fc_agg_41_3) (by rfl)) rfl rfl rfl ?_)
      refine ws (st_po (po_faddr rfl (by exact fc_field_45_0_0)) rfl rfl rfl ?_)
      refine ws (st_po (po_load rfl (by exact fc_flat_3) (by rfl)) rfl rfl rfl ?_)
      refine ws (st_po (po_faddr rfl (by exact fc_field_45_1_1)) rfl rfl rfl ?_)
      refine ws (st_po (po_load rfl (by exact fc_flat_3) (by rfl)) rfl rfl rfl ?_)
      refine ws (st_call (co_fn rfl rfl) (ref_Near tc t s.cell s.side hl hm hr.1) (by infer_instance) rfl rfl rfl ?_)
      rintro v58 _ ⟨rfl, rfl⟩
      try dsimp only [List.cons_append, List.nil_append, GridS.l, GridS.p, MeshS.l, MeshS.lF, MeshS.p, FinderS.l, FinderS.p, FinderS.lF, RouteS.l, RouteS.p, GridS.lT, RouteS.lT]
      refine ws (st_po (po_ge rfl rfl) rfl rfl rfl ?_)
      refine ws (st_po (po_pick_t rfl rfl) rfl rfl rfl ?_)
      refine s_nil ?_
      refine at_then_wp ?_
      first | refine r_dec_f rfl (by have := hr.2.2.2.2 h4; omega) ?_ | refine r_nd_f rfl (by have := hr.2.2.2.2 h4; omega) ?_ | refine r_cond_f rfl (by have := hr.2.2.2.2 h4; omega) ?_
      refine r_skip ?_
      refine at_block_normal ?_
      refine at_then_wp ?_
      refine r_reg ?_
      refine ws (st_po (po_move rfl) rfl rfl rfl ?_)
      refine ws (st_po (po_add' rfl rfl (by omega) (by omega)) rfl rfl rfl ?_)
      refine ws (st_po (po_assign rfl) rfl rfl rfl ?_)
      refine s_nil ?_
      exact at_again (k + 1) (And.intro rfl (trivial)) (And.intro rfl (And.intro rfl (trivial))) (by omega) (by omega) ent
    · skip
      refine ws (st_po (po_bf (po_move rfl) (decide_eq_false h4)) rfl rfl rfl ?_)
      refine ws (st_no rfl rfl rfl ?_)
      refine ws (st_no rfl rfl rfl ?_)
      refine ws (st_no rfl rfl rfl ?_)
      refine ws (st_no rfl rfl rfl ?_)
      refine ws (st_no rfl rfl rfl ?_)
      refine ws (st_no rfl rfl rfl ?_)
      refine ws (st_no rfl rfl rfl ?_)
      refine ws (st_po (po_pick_f rfl rfl) rfl rfl rfl ?_)
      refine s_nil ?_
      refine at_then_wp ?_
      refine r_cond_f rfl rfl ?_
      refine r_skip ?_
      refine at_block_normal ?_
      refine at_then_wp ?_
      refine r_reg ?_
      refine ws (st_po (po_move rfl) rfl rfl rfl ?_)
      refine ws (st_po (po_add' rfl rfl (by omega) (by omega)) rfl rfl rfl ?_)
      refine ws (st_po (po_assign rfl) rfl rfl rfl ?_)
      refine s_nil ?_
      exact at_again (k + 1) (And.intro rfl (trivial)) (And.intro rfl (And.intro rfl (trivial))) (by omega) (by omega) ent
  · intro hlt
    refine r_exit ?_
    refine at_then_exit ?_
    refine at_then_exit ?_
    refine at_block_here ?_
    refine at_then_wp ?_
    refine r_seq ?_
    refine r_reg ?_
    refine ws (st_po (po_assign rfl) rfl rfl rfl ?_)
    refine s_nil ?_
    refine at_then_wp ?_
    refine r_ret ?_
    refine at_ret1 rfl (rv_tmp rfl) ⟨_, ⟨rfl, rfl⟩, ?_⟩
    try dsimp only [List.cons_append, List.nil_append, GridS.l, GridS.p, MeshS.l, MeshS.lF, MeshS.p, FinderS.l, FinderS.p, FinderS.lF, RouteS.l, RouteS.p, GridS.lT, RouteS.lT]
    exact ent
/-- what a sector is told may be told -/
theorem seedsG_may {g : GridS} (ok : GridOk g) {A : Int → Int} (hA : ∀ c, A c ≠ INF → 0 ≤ A c ∧ A c ≤ 255 * g.c.length) {t i : Int} (hi : IsS g.w g.h i) (ht : IsC g.w g.h t) {s : Seed} (hs : s ∈ seedsG g.w g.h g.c A t i) : RefSd (tileN g i) s := by
  have hlen := ok.len
  have hmul := may_mul ok.may
  unfold seedsG at hs
  rcases List.mem_append.1 hs with h | h
  · obtain ⟨c, k, hc, hci, hk, hn, hne, hAi, rfl⟩ := (mem_seedsO ok hi).1 h
    have hin : InS g.w g.h g.c i c := ⟨hc.1, hc.2, hci⟩
    have ho := local_opn ok hin
    have hcn := opn_cost ok hn.1
    have hAr := hA _ hAi
    refine ⟨⟨ho.1, ho.2.1⟩, ho.2.2, ⟨by dsimp only; omega, by dsimp only; omega⟩, ⟨by dsimp only; omega, by dsimp only; omega⟩, fun _ => ?_⟩
    dsimp only
    rcases Int.lt_or_le (stepN (tileN g i).w (tileN g i).h (localN g.w g.h c) k) 0 with h1 | h1
    · exact h1
    · have := (step_in hc.2 hk).2 (by rw [hci]; exact h1)
      rw [hci] at this
      exact absurd this.2 hne
  · split at h
    · rename_i h1
      rw [List.mem_singleton] at h
      subst h
      have hto : Opn g.c t := by
        refine ⟨ht.2.1, by have := ht.2.2; omega, ?_⟩
        rw [← cost_opn ok ht]; exact h1.2
      have ho := local_opn ok ⟨hto, ht, h1.1⟩
      exact ⟨⟨ho.1, ho.2.1⟩, ho.2.2, ⟨by dsimp only; omega, by dsimp only; omega⟩, ⟨by dsimp only; omega, by dsimp only; omega⟩, fun h => absurd rfl h⟩
    · cases h
theorem atN_le {g : GridS} (ok : GridOk g) {r : RouteS} (hr : RouteOk g r) (c : Int) (h : atN r c ≠ INF) : 0 ≤ atN r c ∧ atN r c ≤ 255 * g.c.length := by
  have hI : INF = 1099511627776 := rfl
  rw [hr.at ok] at h ⊢
  split at h
  · rename_i hn
    rw [if_pos hn]
    have := (fl_is ok r.goal).rng c
    exact fl_bound ok r.goal (by omega)
  · exact absurd rfl h
def own4 (s : Seed) : Bool := decide (s.side = 4)
theorem seedsO_no4 {g : GridS} (ok : GridOk g) {A : Int → Int} {i : Int} (hi : IsS g.w g.h i) : (seedsO g.w g.h g.c A i).countP own4 = 0 := by
  rw [List.countP_eq_zero]
  intro s hs
  obtain ⟨c, k, _, _, hk, _, _, _, rfl⟩ := (mem_seedsO ok hi).1 hs
  unfold own4
  simp only [decide_eq_true_eq]; omega
theorem seedsG_own {g : GridS} (ok : GridOk g) {A : Int → Int} {t i : Int} (hi : IsS g.w g.h i) : (seedsG g.w g.h g.c A t i).countP own4 = if sectorN g.w g.h t = i ∧ costN g.c t ≠ 255 then 1 else 0 := by
  unfold seedsG
  rw [List.countP_append, seedsO_no4 ok hi]
  split <;> simp [own4]
/-- what a seed tells -/
structure Tells (g : GridS) (A : Int → Int) (t i : Int) (s : Seed) : Prop where
  here : s.side = 4 → s.key = 0 ∧ globalN g.w g.h i s.cell = t
  over : s.side ≠ 4 → IsC g.w g.h (stepN g.w g.h (globalN g.w g.h i s.cell) s.side) ∧ s.key = gAt g.c (stepN g.w g.h (globalN g.w g.h i s.cell) s.side) + A (stepN g.w g.h (globalN g.w g.h i s.cell) s.side)
theorem seedsG_tells {g : GridS} (ok : GridOk g) {A : Int → Int} {t i : Int} (hi : IsS g.w g.h i) (ht : IsC g.w g.h t) {s : Seed} (hs : s ∈ seedsG g.w g.h g.c A t i) : Tells g A t i s := by
  unfold seedsG at hs
  rcases List.mem_append.1 hs with h | h
  · obtain ⟨c, k, hc, hci, hk, hn, hne, hAi, rfl⟩ := (mem_seedsO ok hi).1 h
    have e := global_local hc.2
    rw [hci] at e
    exact ⟨fun h4 => absurd h4 (by dsimp only; omega), fun _ => by dsimp only; rw [e]; exact ⟨hn.2, rfl⟩⟩
  · split at h
    · rename_i h1
      rw [List.mem_singleton] at h
      subst h
      have e := global_local ht
      rw [h1.1] at e
      exact ⟨fun _ => ⟨rfl, e⟩, fun h4 => absurd rfl h4⟩
    · cases h
theorem take_cnt {l : List Seed} {k : Nat} (h : k < l.length) : (l.take (k + 1)).countP own4 = (l.take k).countP own4 + if own4 l[k] = true then 1 else 0 := by
  rw [take_snoc l k h, List.countP_append]; simp [List.countP_cons]
theorem law16_Sides (K : HP) (w h : Int) (cv : Value) (c : List Int) [Rd [K] cv Int eB c] (hc : ∀ x ∈ c, 0 ≤ x ∧ x ≤ 255) (goal sector : Int) :
    Spec PP 4 #[.int .i64 w, .int .i64 h, cv, .int .i64 goal, .int .i64 sector] [K] (fun v M => v = .bool true ∧ M = [K]) := by
  refine spec_of (Go.Proofs.Tryz.func4) rfl rfl rfl (by exact fc_enters_4) ?_
  intro g F
  try dsimp only [List.cons_append, List.nil_append, GridS.l, GridS.p, MeshS.l, MeshS.lF, MeshS.p, FinderS.l, FinderS.p, FinderS.lF, RouteS.l, RouteS.p, GridS.lT, RouteS.lT]
  refine r_seq ?_
  refine r_reg ?_
  refine ws (st_po (po_assign rfl) rfl rfl rfl ?_)
  refine s_nil ?_
  refine at_then_wp ?_
  refine r_seq ?_
  refine r_reg ?_
  refine ws (st_po (po_move rfl) rfl rfl rfl ?_)
  refine ws (st_po (po_move rfl) rfl rfl rfl ?_)
  refine ws (st_po (po_move rfl) rfl rfl rfl ?_)
  refine ws (st_call (co_fn rfl rfl) (ref_Made K w h cv c hc) (by infer_instance) rfl rfl rfl ?_)
  rintro v27 _ ⟨W, H, mv, C, rfl, rfl, hm⟩
  try dsimp only [List.cons_append, List.nil_append, GridS.l, GridS.p, MeshS.l, MeshS.lF, MeshS.p, FinderS.l, FinderS.p, FinderS.lF, RouteS.l, RouteS.p, GridS.lT, RouteS.lT]
  have hmm := may_mul hm.may.1
  have hml := hm.len
  have hcn := made_cnt hm
  refine ws (st_xo (xo_alloc (by exact fc_zero_24)) rfl rfl rfl ?_)
  rintro _ _ ⟨b11, rfl, rfl⟩
  refine ws (st_so (so_storea1 rfl rfl (by exact fc_agg_24_3) rfl rfl) rfl rfl ?_)
  refine s_nil ?_
  refine at_then_wp ?_
  refine r_seq ?_
  refine r_reg ?_
  refine ws (st_po (po_move rfl) rfl rfl rfl ?_)
  refine ws (st_po (po_faddr rfl (by exact fc_field_24_2_2)) rfl rfl rfl ?_)
  refine ws (st_po (po_load rfl (by exact fc_flat_22) (by rfl)) rfl rfl rfl ?_)
  refine ws (st_po (po_len rfl (by exact fc_slice_22_5_1)) rfl rfl rfl ?_)
  refine ws (st_po (po_sub' rfl rfl (by omega) (by omega)) rfl rfl rfl ?_)
  refine ws (st_call (co_fn rfl rfl) (ref_Within goal 0 ((C.length : Int) - 1) (by omega) (by omega) (by omega)) (by infer_instance) rfl rfl rfl ?_)
  rintro v33 _ ⟨rfl, rfl⟩
  try dsimp only [List.cons_append, List.nil_append, GridS.l, GridS.p, MeshS.l, MeshS.lF, MeshS.p, FinderS.l, FinderS.p, FinderS.lF, RouteS.l, RouteS.p, GridS.lT, RouteS.lT]
  have htc := made_cell hm goal
  generalize 0 + goal % ((C.length : Int) - 1 - 0 + 1) = t at htc
  refine ws (st_po (po_assign rfl) rfl rfl rfl ?_)
  refine s_nil ?_
  refine at_then_wp ?_
  refine r_seq ?_
  refine r_reg ?_
  refine ws (st_po (po_loada rfl (by exact fc_agg_24_3) (by rfl)) rfl rfl rfl ?_)
  refine ws (st_po (po_move rfl) rfl rfl rfl ?_)
  refine ws (st_call (co_fn rfl rfl) (law16_found W H mv C hm t htc) (by infer_instance) rfl rfl rfl ?_)
  rintro v37 _ ⟨f, r, rfl, rfl, ok, hw, hh, hcc, hep, hre, hg, hro, hvs⟩
  try dsimp only [List.cons_append, List.nil_append, GridS.l, GridS.p, MeshS.l, MeshS.lF, MeshS.p, FinderS.l, FinderS.p, FinderS.lF, RouteS.l, RouteS.p, GridS.lT, RouteS.lT]
  refine ws (st_po (po_move rfl) rfl rfl rfl ?_)
  refine ws (st_po (po_extract rfl rfl) rfl rfl rfl ?_)
  refine ws (st_po (po_extract rfl rfl) rfl rfl rfl ?_)
  refine ws (st_po (po_assign rfl) rfl rfl rfl ?_)
  refine ws (st_po (po_assign rfl) rfl rfl rfl ?_)
  refine s_nil ?_
  refine at_then_wp ?_
  refine r_seq ?_
  refine r_seq ?_
  refine r_reg ?_
  refine ws (st_po (po_move rfl) rfl rfl rfl ?_)
  refine ws (st_po (po_peq rfl rfl (by exact fc_ptr_27)) rfl rfl rfl ?_)
  refine s_nil ?_
  refine at_then_wp ?_
  first | refine r_dec_f rfl (by simp) ?_ | refine r_nd_f rfl (by simp) ?_ | refine r_cond_f rfl (by simp) ?_
  refine r_skip ?_
  refine at_then_wp ?_
  refine r_seq ?_
  refine r_reg ?_
  refine ws (st_po (po_move rfl) rfl rfl rfl ?_)
  refine ws (st_po (po_faddr rfl (by exact fc_field_24_0_0)) rfl rfl rfl ?_)
  refine ws (st_po (po_load rfl (by exact fc_flat_3) (by rfl)) rfl rfl rfl ?_)
  refine ws (st_po (po_faddr rfl (by exact fc_field_24_1_1)) rfl rfl rfl ?_)
  refine ws (st_po (po_load rfl (by exact fc_flat_3) (by rfl)) rfl rfl rfl ?_)
  refine ws (st_call (co_fn rfl rfl) (ref_Count W H) (by infer_instance) rfl rfl rfl ?_)
  rintro v47 _ ⟨rfl, rfl⟩
  try dsimp only [List.cons_append, List.nil_append, GridS.l, GridS.p, MeshS.l, MeshS.lF, MeshS.p, FinderS.l, FinderS.p, FinderS.lF, RouteS.l, RouteS.p, GridS.lT, RouteS.lT]
  refine ws (st_po (po_sub' rfl rfl (by omega) (by omega)) rfl rfl rfl ?_)
  refine ws (st_call (co_fn rfl rfl) (ref_Within sector 0 ((secsN W H).1 * (secsN W H).2 - 1) (by omega) (by omega) (by omega)) (by infer_instance) rfl rfl rfl ?_)
  rintro v49 _ ⟨rfl, rfl⟩
  try dsimp only [List.cons_append, List.nil_append, GridS.l, GridS.p, MeshS.l, MeshS.lF, MeshS.p, FinderS.l, FinderS.p, FinderS.lF, RouteS.l, RouteS.p, GridS.lT, RouteS.lT]
  have his := made_sec hm sector
  generalize 0 + sector % ((secsN W H).1 * (secsN W H).2 - 1 - 0 + 1) = i at his
  refine ws (st_po (po_assign rfl) rfl rfl rfl ?_)
  refine s_nil ?_
  refine at_then_wp ?_
  refine r_seq ?_
  refine r_reg ?_
  refine ws (st_po (po_move rfl) rfl rfl rfl ?_)
  refine ws (st_po (po_move rfl) rfl rfl rfl ?_)
  refine ws (st_call (co_fn rfl rfl) (grid_Tile f.m.g i ok (by rw [hw, hh]; exact his)) (by infer_instance) rfl rfl rfl ?_)
  rintro v53 _ ⟨tc, rfl, rfl⟩
  try dsimp only [List.cons_append, List.nil_append, GridS.l, GridS.p, MeshS.l, MeshS.lF, MeshS.p, FinderS.l, FinderS.p, FinderS.lF, RouteS.l, RouteS.p, GridS.lT, RouteS.lT]
  refine ws (st_po (po_move rfl) rfl rfl rfl ?_)
  refine ws (st_po (po_extract rfl rfl) rfl rfl rfl ?_)
  refine ws (st_po (po_extract rfl rfl) rfl rfl rfl ?_)
  refine ws (st_xo (xo_alloc (by exact fc_zero_41)) rfl rfl rfl ?_)
  rintro _ _ ⟨b16, rfl, rfl⟩
  refine ws (st_so (so_storea1 rfl rfl (by exact fc_agg_41_3) rfl rfl) rfl rfl ?_)
  refine ws (st_po (po_assign rfl) rfl rfl rfl ?_)
  refine s_nil ?_
  refine at_then_wp ?_
  refine r_seq ?_
  refine r_reg ?_
  refine ws (st_po (po_move rfl) rfl rfl rfl ?_)
  refine ws (st_po (po_move rfl) rfl rfl rfl ?_)
  refine ws (st_po (po_move rfl) rfl rfl rfl ?_)
  refine ws (st_call (co_fn rfl rfl) (inject_Seeds f.m.g ok r hro.rng (by rw [hre, hep]) (by rw [hg, hw, hh]; exact htc) i) (by infer_instance) rfl rfl rfl ?_)
  rintro v59 _ ⟨ys, rfl, hp, hs⟩
  try dsimp only [List.cons_append, List.nil_append, GridS.l, GridS.p, MeshS.l, MeshS.lF, MeshS.p, FinderS.l, FinderS.p, FinderS.lF, RouteS.l, RouteS.p, GridS.lT, RouteS.lT]
  have his' : IsS f.m.g.w f.m.g.h i := by rw [hw, hh]; exact his
  have htc' : IsC f.m.g.w f.m.g.h r.goal := by rw [hw, hh, hg]; exact htc
  have hyl : ys.length ≤ 1025 := by rw [hp.length_eq]; exact seedsG_len ..
  have htl : ∀ s ∈ ys, Tells f.m.g (atN r) t i s := fun s h => by have := seedsG_tells ok his' htc' (hp.mem_iff.1 h); rw [hg] at this; exact this
  have hmy : ∀ s ∈ ys, RefSd (tileN f.m.g i) s := fun s h => seedsG_may ok (fun c h2 => atN_le ok hro c h2) his' htc' (hp.mem_iff.1 h)
  have hpw : ys.Pairwise fun x y => ¬ (x.cell = y.cell ∧ x.side = y.side) := (hp.pairwise_iff (fun h1 h2 => h1 ⟨h2.1.symm, h2.2.symm⟩)).2 (seedsG_pw ok his')
  have hcnt : ys.countP own4 = if sectorN W H t = i ∧ costN C t ≠ 255 then 1 else 0 := by rw [hp.countP_eq, seedsG_own ok his', hw, hh, hcc, hg]
  refine ws (st_po (po_assign rfl) rfl rfl rfl ?_)
  refine s_nil ?_
  refine at_then_wp ?_
  refine r_seq ?_
  refine r_reg ?_
  refine ws (st_po (po_assign rfl) rfl rfl rfl ?_)
  refine s_nil ?_
  refine at_then_wp ?_
  refine r_seq ?_
  refine r_seq ?_
  refine r_reg ?_
  refine ws (st_po (po_assign rfl) rfl rfl rfl ?_)
  refine s_nil ?_
  refine at_then_wp ?_
  refine r_block ?_
  refine r_loop (S := Nat) (fun k => [(19, .int .i64 ((ys.take k).countP own4 : Nat)), (20, .int .i64 k)]) [(11, _), (12, _), (14, _), (15, _), (16, _), (17, _), (18, _)] (fun k => Sl eS v59 ys :: Blk b16 41 [.int .i64 (tileN f.m.g i).w, .int .i64 (tileN f.m.g i).h, tc] :: Sl eB tc (tileN f.m.g i).c :: Blk b11 24 [.int .i64 W, .int .i64 H, mv] :: Sl eB mv C :: K :: r.lT [F]) (fun k => k ≤ ys.length) (fun k => ys.length - k) (0) (And.intro rfl (And.intro rfl (And.intro rfl (And.intro rfl (And.intro rfl (And.intro rfl (And.intro rfl (trivial)))))))) (And.intro rfl (And.intro rfl (trivial))) (by omega) ent ?_
  rintro k hk
  try dsimp only [List.cons_append, List.nil_append, GridS.l, GridS.p, MeshS.l, MeshS.lF, MeshS.p, FinderS.l, FinderS.p, FinderS.lF, RouteS.l, RouteS.p, GridS.lT, RouteS.lT]
  have hcl : (ys.take k).countP own4 ≤ k := Nat.le_trans List.countP_le_length (by rw [List.length_take]; omega)
  refine r_seq ?_
  refine r_seq ?_
  refine r_reg ?_
  refine ws (st_po (po_move rfl) rfl rfl rfl ?_)
  refine ws (st_po (po_move rfl) rfl rfl rfl ?_)
  refine ws (st_po (po_len rfl (by exact fc_slice_32_45_3)) rfl rfl rfl ?_)
  refine ws (st_po (po_lt rfl rfl) rfl rfl rfl ?_)
  refine s_nil ?_
  refine at_then_wp ?_
  first | refine r_cond_not rfl ?_ ?_ | refine r_cond_dec rfl ?_ ?_ | refine r_cond rfl ?_ ?_
  · intro hlt
    have hkl : k < ys.length := by omega
    have hkm : ys[(k : Int).toNat]'(by omega) ∈ ys := List.getElem_mem _
    have hT1 : (ys[(k : Int).toNat]'(by omega)).side = 4 → (ys[(k : Int).toNat]'(by omega)).key = 0 ∧ globalN W H i (ys[(k : Int).toNat]'(by omega)).cell = t := by have := (htl _ hkm).here; rw [hw, hh] at this; exact this
    have hT2 : (ys[(k : Int).toNat]'(by omega)).side ≠ 4 → IsC W H (stepN W H (globalN W H i (ys[(k : Int).toNat]'(by omega)).cell) (ys[(k : Int).toNat]'(by omega)).side) ∧ (ys[(k : Int).toNat]'(by omega)).key = gAt C (stepN W H (globalN W H i (ys[(k : Int).toNat]'(by omega)).cell) (ys[(k : Int).toNat]'(by omega)).side) + atN r (stepN W H (globalN W H i (ys[(k : Int).toNat]'(by omega)).cell) (ys[(k : Int).toNat]'(by omega)).side) := by have := (htl _ hkm).over; rw [hw, hh, hcc] at this; exact this
    refine r_skip ?_
    refine at_then_wp ?_
    refine r_seq ?_
    refine r_block ?_
    refine r_joink (S := Unit) (fun _ => [(19, .int .i64 ((ys.take (k + 1)).countP own4 : Nat))]) [(11, _), (12, _), (14, _), (15, _), (16, _), (17, _), (18, _), (20, _)] (fun _ => Sl eS v59 ys :: Blk b16 41 [.int .i64 (tileN f.m.g i).w, .int .i64 (tileN f.m.g i).h, tc] :: Sl eB tc (tileN f.m.g i).c :: Blk b11 24 [.int .i64 W, .int .i64 H, mv] :: Sl eB mv C :: K :: r.lT [F]) (fun _ => True) (And.intro rfl (And.intro rfl (And.intro rfl (And.intro rfl (And.intro rfl (And.intro rfl (And.intro rfl (And.intro rfl (trivial))))))))) ?_ ?_
    · skip
      refine r_seq ?_
      refine r_reg ?_
      refine ws (st_po (po_move rfl) rfl rfl rfl ?_)
      refine ws (st_po (po_move rfl) rfl rfl rfl ?_)
      refine ws (st_po (po_iaddr rfl rfl (by exact fc_slice_32_45_3) (by first | omega | (simp only [List.length_nil, List.length_cons, List.length_append, List.length_replicate, List.length_set, List.length_map, List.length_take, List.length_drop]; omega)) (by first | omega | (simp only [List.length_nil, List.length_cons, List.length_append, List.length_replicate, List.length_set, List.length_map, List.length_take, List.length_drop]; omega))) rfl rfl rfl ?_)
      refine ws (st_po (po_faddr_sl rfl (by omega) (by exact fc_field_45_1_1)) rfl rfl rfl ?_)
      refine ws (st_po (po_load_sl rfl (List.getElem?_eq_getElem (by first | omega | (simp only [List.length_nil, List.length_cons, List.length_append, List.length_replicate, List.length_set, List.length_map, List.length_take, List.length_drop]; omega))) (by exact fc_flat_3) (by rfl)) rfl rfl rfl ?_)
      refine ws (st_po (po_eq rfl rfl) rfl rfl rfl ?_)
      refine s_nil ?_
      refine at_then_wp ?_
      first | refine r_cond_not rfl ?_ ?_ | refine r_cond_dec rfl ?_ ?_ | refine r_cond rfl ?_ ?_
      · intro h4
        refine r_seq ?_
        refine r_reg ?_
        refine ws (st_po (po_move rfl) rfl rfl rfl ?_)
        refine ws (st_po (po_add' rfl rfl (by omega) (by omega)) rfl rfl rfl ?_)
        refine ws (st_po (po_assign rfl) rfl rfl rfl ?_)
        refine s_nil ?_
        refine at_then_wp ?_
        refine r_seq ?_
        refine r_ord [] _ [(0, 1), (1, 1), (2, 0), (3, 0), (4, 0), (5, 1), (6, 1), (7, 1), (8, 0), (9, 1), (10, 0), (11, 1), (12, 1), (13, 1), (14, 0), (15, 0), (16, 0), (18, 1), (17, 2), (19, 1), (20, 1)] fc_mixed (by kernel_rfl) (fun _ h => h) ?_
        refine o_fr rfl (po_move rfl) rfl rfl rfl ?_
        refine o_fr rfl (po_move rfl) rfl rfl rfl ?_
        refine o_rd rfl (po_iaddr rfl rfl (by exact fc_slice_32_45_3) (by first | omega | (simp only [List.length_nil, List.length_cons, List.length_append, List.length_replicate, List.length_set, List.length_map, List.length_take, List.length_drop]; omega)) (by first | omega | (simp only [List.length_nil, List.length_cons, List.length_append, List.length_replicate, List.length_set, List.length_map, List.length_take, List.length_drop]; omega))) (by first | exact fun _ h => h | exact ent) rfl rfl rfl ?_
        refine o_rd rfl (po_faddr_sl rfl (by omega) (by exact fc_field_45_2_2)) (by first | exact fun _ h => h | exact ent) rfl rfl rfl ?_
        refine o_rd rfl (po_load_sl rfl (List.getElem?_eq_getElem (by first | omega | (simp only [List.length_nil, List.length_cons, List.length_append, List.length_replicate, List.length_set, List.length_map, List.length_take, List.length_drop]; omega))) (by exact fc_flat_3) (by rfl)) (by first | exact fun _ h => h | exact ent) rfl rfl rfl ?_
        refine o_fr rfl (po_ne rfl rfl) rfl rfl rfl ?_
        refine o_fr rfl (po_bf (po_move rfl) (decide_eq_false (by have := hT1 h4; omega))) rfl rfl rfl ?_
        refine o_fr rfl (po_faddr rfl (by exact fc_field_24_0_0)) rfl rfl rfl ?_
        refine o_rd rfl (po_load rfl (by exact fc_flat_3) (by rfl)) (by first | exact fun _ h => h | exact ent) rfl rfl rfl ?_
        refine o_fr rfl (po_faddr rfl (by exact fc_field_24_1_1)) rfl rfl rfl ?_
        refine o_rd rfl (po_load rfl (by exact fc_flat_3) (by rfl)) (by first | exact fun _ h => h | exact ent) rfl rfl rfl ?_
        refine o_fr rfl (po_move rfl) rfl rfl rfl ?_
        refine o_fr rfl (po_move rfl) rfl rfl rfl ?_
        refine o_fr rfl (po_move rfl) rfl rfl rfl ?_
        refine o_rd rfl (po_iaddr rfl rfl (by exact fc_slice_32_45_3) (by first | omega | (simp only [List.length_nil, List.length_cons, List.length_append, List.length_replicate, List.length_set, List.length_map, List.length_take, List.length_drop]; omega)) (by first | omega | (simp only [List.length_nil, List.length_cons, List.length_append, List.length_replicate, List.length_set, List.length_map, List.length_take, List.length_drop]; omega))) (by first | exact fun _ h => h | exact ent) rfl rfl rfl ?_
        refine o_rd rfl (po_faddr_sl rfl (by omega) (by exact fc_field_45_0_0)) (by first | exact fun _ h => h | exact ent) rfl rfl rfl ?_
        refine o_rd rfl (po_load_sl rfl (List.getElem?_eq_getElem (by first | omega | (simp only [List.length_nil, List.length_cons, List.length_append, List.length_replicate, List.length_set, List.length_map, List.length_take, List.length_drop]; omega))) (by exact fc_flat_3) (by rfl)) (by first | exact fun _ h => h | exact ent) rfl rfl rfl ?_
        refine o_fr rfl (po_move rfl) rfl rfl rfl ?_
        refine o_st rfl (st_call (co_fn rfl rfl) (ref_Global W H i (ys[(k : Int).toNat]'(by omega)).cell) (by infer_instance) rfl rfl rfl ?_)
        rintro v91 _ ⟨rfl, rfl⟩
        try dsimp only [List.cons_append, List.nil_append, GridS.l, GridS.p, MeshS.l, MeshS.lF, MeshS.p, FinderS.l, FinderS.p, FinderS.lF, RouteS.l, RouteS.p, GridS.lT, RouteS.lT]
        refine ⟨fun _ => (by first | exact fun _ h => h | exact ent), ?_⟩
        refine o_fr rfl (po_ne rfl rfl) rfl rfl rfl ?_
        refine o_fr rfl (po_pick_f rfl rfl) rfl rfl rfl ?_
        refine o_nil ?_
        refine at_then_wp ?_
        first | refine r_dec_f rfl (by have := hT1 h4; omega) ?_ | refine r_nd_f rfl (by have := hT1 h4; omega) ?_ | refine r_cond_f rfl (by have := hT1 h4; omega) ?_
        refine r_skip ?_
        have e1 : ((ys.take k).countP own4 : Int) + 1 = ((ys.take (k + 1)).countP own4 : Nat) := by rw [take_cnt hkl, if_pos (show own4 ys[k] = true from decide_eq_true h4)]; omega
        rw [e1]
        exact at_join (()) (And.intro rfl (trivial)) (And.intro rfl (And.intro rfl (And.intro rfl (And.intro rfl (And.intro rfl (And.intro rfl (And.intro rfl (And.intro rfl (trivial))))))))) (trivial) ent
      · intro h4
        obtain ⟨hn1, hn2⟩ := hT2 h4
        generalize hne : stepN W H (globalN W H i (ys[(k : Int).toNat]'(by omega)).cell) (ys[(k : Int).toNat]'(by omega)).side = n at hn1 hn2
        have hnl : 0 ≤ n ∧ n < C.length := ⟨hn1.2.1, by have := hn1.2.2; omega⟩
        have hgn : gAt C n = C[n.toNat]'(by omega) := gAt_get (by omega)
        have hgb := hm.bt _ (List.getElem_mem (show n.toNat < C.length by omega))
        have hat := atN_rng r hro.rng n
        refine r_seq ?_
        refine r_ord [] _ [(0, 1), (1, 0), (2, 1), (3, 0), (4, 1), (5, 0), (6, 1), (7, 0), (8, 1), (9, 1), (10, 1), (11, 0), (12, 0), (13, 0), (15, 1), (16, 1), (17, 0), (18, 0), (19, 0), (14, 2), (20, 2), (21, 1)] fc_mixed (by kernel_rfl) (fun _ h => h) ?_
        refine o_fr rfl (po_faddr rfl (by exact fc_field_24_0_0)) rfl rfl rfl ?_
        refine o_rd rfl (po_load rfl (by exact fc_flat_3) (by rfl)) (by first | exact fun _ h => h | exact ent) rfl rfl rfl ?_
        refine o_fr rfl (po_faddr rfl (by exact fc_field_24_1_1)) rfl rfl rfl ?_
        refine o_rd rfl (po_load rfl (by exact fc_flat_3) (by rfl)) (by first | exact fun _ h => h | exact ent) rfl rfl rfl ?_
        refine o_fr rfl (po_faddr rfl (by exact fc_field_24_0_0)) rfl rfl rfl ?_
        refine o_rd rfl (po_load rfl (by exact fc_flat_3) (by rfl)) (by first | exact fun _ h => h | exact ent) rfl rfl rfl ?_
        refine o_fr rfl (po_faddr rfl (by exact fc_field_24_1_1)) rfl rfl rfl ?_
        refine o_rd rfl (po_load rfl (by exact fc_flat_3) (by rfl)) (by first | exact fun _ h => h | exact ent) rfl rfl rfl ?_
        refine o_fr rfl (po_move rfl) rfl rfl rfl ?_
        refine o_fr rfl (po_move rfl) rfl rfl rfl ?_
        refine o_fr rfl (po_move rfl) rfl rfl rfl ?_
        refine o_rd rfl (po_iaddr rfl rfl (by exact fc_slice_32_45_3) (by first | omega | (simp only [List.length_nil, List.length_cons, List.length_append, List.length_replicate, List.length_set, List.length_map, List.length_take, List.length_drop]; omega)) (by first | omega | (simp only [List.length_nil, List.length_cons, List.length_append, List.length_replicate, List.length_set, List.length_map, List.length_take, List.length_drop]; omega))) (by first | exact fun _ h => h | exact ent) rfl rfl rfl ?_
        refine o_rd rfl (po_faddr_sl rfl (by omega) (by exact fc_field_45_0_0)) (by first | exact fun _ h => h | exact ent) rfl rfl rfl ?_
        refine o_rd rfl (po_load_sl rfl (List.getElem?_eq_getElem (by first | omega | (simp only [List.length_nil, List.length_cons, List.length_append, List.length_replicate, List.length_set, List.length_map, List.length_take, List.length_drop]; omega))) (by exact fc_flat_3) (by rfl)) (by first | exact fun _ h => h | exact ent) rfl rfl rfl ?_
        refine o_fr rfl (po_move rfl) rfl rfl rfl ?_
        refine o_fr rfl (po_move rfl) rfl rfl rfl ?_
        refine o_rd rfl (po_iaddr rfl rfl (by exact fc_slice_32_45_3) (by first | omega | (simp only [List.length_nil, List.length_cons, List.length_append, List.length_replicate, List.length_set, List.length_map, List.length_take, List.length_drop]; omega)) (by first | omega | (simp only [List.length_nil, List.length_cons, List.length_append, List.length_replicate, List.length_set, List.length_map, List.length_take, List.length_drop]; omega))) (by first | exact fun _ h => h | exact ent) rfl rfl rfl ?_
        refine o_rd rfl (po_faddr_sl rfl (by omega) (by exact fc_field_45_1_1)) (by first | exact fun _ h => h | exact ent) rfl rfl rfl ?_
        refine o_rd rfl (po_load_sl rfl (List.getElem?_eq_getElem (by first | omega | (simp only [List.length_nil, List.length_cons, List.length_append, List.length_replicate, List.length_set, List.length_map, List.length_take, List.length_drop]; omega))) (by exact fc_flat_3) (by rfl)) (by first | exact fun _ h => h | exact ent) rfl rfl rfl ?_
        refine o_st rfl (st_call (co_fn rfl rfl) (ref_Global W H i (ys[(k : Int).toNat]'(by omega)).cell) (by infer_instance) rfl rfl rfl ?_)
        rintro v109 _ ⟨rfl, rfl⟩
        try dsimp only [List.cons_append, List.nil_append, GridS.l, GridS.p, MeshS.l, MeshS.lF, MeshS.p, FinderS.l, FinderS.p, FinderS.lF, RouteS.l, RouteS.p, GridS.lT, RouteS.lT]
        refine ⟨fun _ => (by first | exact fun _ h => h | exact ent), ?_⟩
        refine o_st rfl (st_call (co_fn rfl rfl) (ref_Step W H (globalN W H i (ys[(k : Int).toNat]'(by omega)).cell) (ys[(k : Int).toNat]'(by omega)).side) (by infer_instance) rfl rfl rfl ?_)
        rintro v115 _ ⟨rfl, rfl⟩
        try dsimp only [List.cons_append, List.nil_append, GridS.l, GridS.p, MeshS.l, MeshS.lF, MeshS.p, FinderS.l, FinderS.p, FinderS.lF, RouteS.l, RouteS.p, GridS.lT, RouteS.lT]
        refine ⟨fun _ => (by first | exact fun _ h => h | exact ent), ?_⟩
        rw [hne]
        refine o_fr rfl (po_assign rfl) rfl rfl rfl ?_
        refine o_nil ?_
        refine at_then_wp ?_
        refine r_seq ?_
        refine r_ord [] _ [(0, 1), (1, 1), (2, 1), (3, 1), (4, 1), (6, 1), (7, 0), (8, 1), (9, 0), (10, 0), (11, 1), (13, 1), (14, 1), (15, 0), (16, 0), (17, 0), (5, 2), (12, 1), (18, 1), (19, 1)] fc_mixed (by kernel_rfl) (fun _ h => h) ?_
        refine o_fr rfl (po_move rfl) rfl rfl rfl ?_
        refine o_fr rfl (po_lt rfl rfl) rfl rfl rfl ?_
        refine o_fr rfl (po_bf (po_move rfl) (decide_eq_false (by omega))) rfl rfl rfl ?_
        refine o_fr rfl (po_move rfl) rfl rfl rfl ?_
        refine o_fr rfl (po_move rfl) rfl rfl rfl ?_
        refine o_fr rfl (po_faddr rfl (by exact fc_field_24_2_2)) rfl rfl rfl ?_
        refine o_rd rfl (po_load rfl (by exact fc_flat_22) (by rfl)) (by first | exact fun _ h => h | exact ent) rfl rfl rfl ?_
        refine o_fr rfl (po_move rfl) rfl rfl rfl ?_
        refine o_rd rfl (po_iaddr rfl rfl (by exact fc_slice_22_5_1) (by first | omega | (simp only [List.length_nil, List.length_cons, List.length_append, List.length_replicate, List.length_set, List.length_map, List.length_take, List.length_drop]; omega)) (by first | omega | (simp only [List.length_nil, List.length_cons, List.length_append, List.length_replicate, List.length_set, List.length_map, List.length_take, List.length_drop]; omega))) (by first | exact fun _ h => h | exact ent) rfl rfl rfl ?_
        refine o_rd rfl (po_load_sl rfl (List.getElem?_eq_getElem (by first | omega | (simp only [List.length_nil, List.length_cons, List.length_append, List.length_replicate, List.length_set, List.length_map, List.length_take, List.length_drop]; omega))) (by exact fc_flat_5) (by rfl)) (by first | exact fun _ h => h | exact ent) rfl rfl rfl ?_
        refine o_fr rfl (po_conv_w rfl (by exact fc_int_5_u8) (by exact fc_int_3_i64) (wrap_i64 _ (by omega) (by omega))) rfl rfl rfl ?_
        refine o_fr rfl (po_move rfl) rfl rfl rfl ?_
        refine o_fr rfl (po_move rfl) rfl rfl rfl ?_
        refine o_rd rfl (po_iaddr rfl rfl (by exact fc_slice_32_45_3) (by first | omega | (simp only [List.length_nil, List.length_cons, List.length_append, List.length_replicate, List.length_set, List.length_map, List.length_take, List.length_drop]; omega)) (by first | omega | (simp only [List.length_nil, List.length_cons, List.length_append, List.length_replicate, List.length_set, List.length_map, List.length_take, List.length_drop]; omega))) (by first | exact fun _ h => h | exact ent) rfl rfl rfl ?_
        refine o_rd rfl (po_faddr_sl rfl (by omega) (by exact fc_field_45_2_2)) (by first | exact fun _ h => h | exact ent) rfl rfl rfl ?_
        refine o_rd rfl (po_load_sl rfl (List.getElem?_eq_getElem (by first | omega | (simp only [List.length_nil, List.length_cons, List.length_append, List.length_replicate, List.length_set, List.length_map, List.length_take, List.length_drop]; omega))) (by exact fc_flat_3) (by rfl)) (by first | exact fun _ h => h | exact ent) rfl rfl rfl ?_
        refine o_st rfl (st_call (co_fn rfl rfl) (route_At r n hro.rng) (by infer_instance) rfl rfl rfl ?_)
        rintro v121 _ ⟨rfl, rfl⟩
        try dsimp only [List.cons_append, List.nil_append, GridS.l, GridS.p, MeshS.l, MeshS.lF, MeshS.p, FinderS.l, FinderS.p, FinderS.lF, RouteS.l, RouteS.p, GridS.lT, RouteS.lT]
        refine ⟨fun _ => (by first | exact fun _ h => h | exact ent), ?_⟩
        refine o_fr rfl (po_add' rfl rfl (by omega) (by omega)) rfl rfl rfl ?_
        refine o_fr rfl (po_ne rfl rfl) rfl rfl rfl ?_
        refine o_fr rfl (po_pick_f rfl rfl) rfl rfl rfl ?_
        refine o_nil ?_
        refine at_then_wp ?_
        first | refine r_dec_f rfl (by omega) ?_ | refine r_nd_f rfl (by omega) ?_ | refine r_cond_f rfl (by omega) ?_
        refine r_skip ?_
        have e1 : ((ys.take k).countP own4 : Int) = ((ys.take (k + 1)).countP own4 : Nat) := by rw [take_cnt hkl, if_neg (by unfold own4; exact fun h => h4 (of_decide_eq_true h))]; omega
        rw [e1]
        exact at_join (()) (And.intro rfl (trivial)) (And.intro rfl (And.intro rfl (And.intro rfl (And.intro rfl (And.intro rfl (And.intro rfl (And.intro rfl (And.intro rfl (trivial))))))))) (trivial) ent
    · rintro _ -
      try dsimp only [List.cons_append, List.nil_append, GridS.l, GridS.p, MeshS.l, MeshS.lF, MeshS.p, FinderS.l, FinderS.p, FinderS.lF, RouteS.l, RouteS.p, GridS.lT, RouteS.lT]
      refine r_seq ?_
      refine r_reg ?_
      refine ws (st_po (po_assign rfl) rfl rfl rfl ?_)
      refine s_nil ?_
      refine at_then_wp ?_
      refine r_block ?_
      refine r_loop (S := Nat) (fun j => [(22, .int .i64 j)]) [(11, _), (12, _), (14, _), (15, _), (16, _), (17, _), (18, _), (19, _), (20, _)] (fun j => Sl eS v59 ys :: Blk b16 41 [.int .i64 (tileN f.m.g i).w, .int .i64 (tileN f.m.g i).h, tc] :: Sl eB tc (tileN f.m.g i).c :: Blk b11 24 [.int .i64 W, .int .i64 H, mv] :: Sl eB mv C :: K :: r.lT [F]) (fun j => j ≤ k) (fun j => k - j) (0) (And.intro rfl (And.intro rfl (And.intro rfl (And.intro rfl (And.intro rfl (And.intro rfl (And.intro rfl (And.intro rfl (And.intro rfl (trivial)))))))))) (And.intro rfl (trivial)) (by omega) ent ?_
      rintro j hj
      try dsimp only [List.cons_append, List.nil_append, GridS.l, GridS.p, MeshS.l, MeshS.lF, MeshS.p, FinderS.l, FinderS.p, FinderS.lF, RouteS.l, RouteS.p, GridS.lT, RouteS.lT]
      refine r_seq ?_
      refine r_seq ?_
      refine r_reg ?_
      refine ws (st_po (po_move rfl) rfl rfl rfl ?_)
      refine ws (st_po (po_move rfl) rfl rfl rfl ?_)
      refine ws (st_po (po_lt rfl rfl) rfl rfl rfl ?_)
      refine s_nil ?_
      refine at_then_wp ?_
      first | refine r_cond_not rfl ?_ ?_ | refine r_cond_dec rfl ?_ ?_ | refine r_cond rfl ?_ ?_
      · intro hjk
        have hjp := List.pairwise_iff_getElem.1 hpw (j : Int).toNat (k : Int).toNat (by omega) (by omega) (by omega)
        have hjs := ord_key (List.pairwise_iff_getElem.1 hs (j : Int).toNat (k : Int).toNat (by omega) (by omega) (by omega))
        refine r_skip ?_
        refine at_then_wp ?_
        refine r_seq ?_
        refine r_block ?_
        refine r_seq ?_
        refine r_ord [] _ [(0, 1), (1, 1), (2, 0), (3, 0), (4, 0), (5, 1), (6, 1), (7, 0), (8, 0), (9, 0), (10, 1), (11, 1), (12, 1), (13, 1), (14, 0), (15, 0), (16, 0), (17, 1), (18, 1), (19, 0), (20, 0), (21, 0), (22, 1), (23, 1), (24, 1), (25, 1), (26, 1), (27, 0), (28, 0), (29, 0), (30, 1), (31, 1), (32, 0), (33, 0), (34, 0), (35, 1), (36, 1)] fc_mixed (by kernel_rfl) (fun _ h => h) ?_
        refine o_fr rfl (po_move rfl) rfl rfl rfl ?_
        refine o_fr rfl (po_move rfl) rfl rfl rfl ?_
        refine o_rd rfl (po_iaddr rfl rfl (by exact fc_slice_32_45_3) (by first | omega | (simp only [List.length_nil, List.length_cons, List.length_append, List.length_replicate, List.length_set, List.length_map, List.length_take, List.length_drop]; omega)) (by first | omega | (simp only [List.length_nil, List.length_cons, List.length_append, List.length_replicate, List.length_set, List.length_map, List.length_take, List.length_drop]; omega))) (by first | exact fun _ h => h | exact ent) rfl rfl rfl ?_
        refine o_rd rfl (po_faddr_sl rfl (by omega) (by exact fc_field_45_0_0)) (by first | exact fun _ h => h | exact ent) rfl rfl rfl ?_
        refine o_rd rfl (po_load_sl rfl (List.getElem?_eq_getElem (by first | omega | (simp only [List.length_nil, List.length_cons, List.length_append, List.length_replicate, List.length_set, List.length_map, List.length_take, List.length_drop]; omega))) (by exact fc_flat_3) (by rfl)) (by first | exact fun _ h => h | exact ent) rfl rfl rfl ?_
        refine o_fr rfl (po_move rfl) rfl rfl rfl ?_
        refine o_fr rfl (po_move rfl) rfl rfl rfl ?_
        refine o_rd rfl (po_iaddr rfl rfl (by exact fc_slice_32_45_3) (by first | omega | (simp only [List.length_nil, List.length_cons, List.length_append, List.length_replicate, List.length_set, List.length_map, List.length_take, List.length_drop]; omega)) (by first | omega | (simp only [List.length_nil, List.length_cons, List.length_append, List.length_replicate, List.length_set, List.length_map, List.length_take, List.length_drop]; omega))) (by first | exact fun _ h => h | exact ent) rfl rfl rfl ?_
        refine o_rd rfl (po_faddr_sl rfl (by omega) (by exact fc_field_45_0_0)) (by first | exact fun _ h => h | exact ent) rfl rfl rfl ?_
        refine o_rd rfl (po_load_sl rfl (List.getElem?_eq_getElem (by first | omega | (simp only [List.length_nil, List.length_cons, List.length_append, List.length_replicate, List.length_set, List.length_map, List.length_take, List.length_drop]; omega))) (by exact fc_flat_3) (by rfl)) (by first | exact fun _ h => h | exact ent) rfl rfl rfl ?_
        refine o_fr rfl (po_eq rfl rfl) rfl rfl rfl ?_
        by_cases e1 : (ys[(j : Int).toNat]'(by omega)).cell = (ys[(k : Int).toNat]'(by omega)).cell
        · skip
          refine o_fr rfl (po_bt (po_move rfl) (decide_eq_true e1)) rfl rfl rfl ?_
          refine o_fr rfl (po_move rfl) rfl rfl rfl ?_
          refine o_fr rfl (po_move rfl) rfl rfl rfl ?_
          refine o_rd rfl (po_iaddr rfl rfl (by exact fc_slice_32_45_3) (by first | omega | (simp only [List.length_nil, List.length_cons, List.length_append, List.length_replicate, List.length_set, List.length_map, List.length_take, List.length_drop]; omega)) (by first | omega | (simp only [List.length_nil, List.length_cons, List.length_append, List.length_replicate, List.length_set, List.length_map, List.length_take, List.length_drop]; omega))) (by first | exact fun _ h => h | exact ent) rfl rfl rfl ?_
          refine o_rd rfl (po_faddr_sl rfl (by omega) (by exact fc_field_45_1_1)) (by first | exact fun _ h => h | exact ent) rfl rfl rfl ?_
          refine o_rd rfl (po_load_sl rfl (List.getElem?_eq_getElem (by first | omega | (simp only [List.length_nil, List.length_cons, List.length_append, List.length_replicate, List.length_set, List.length_map, List.length_take, List.length_drop]; omega))) (by exact fc_flat_3) (by rfl)) (by first | exact fun _ h => h | exact ent) rfl rfl rfl ?_
          refine o_fr rfl (po_move rfl) rfl rfl rfl ?_
          refine o_fr rfl (po_move rfl) rfl rfl rfl ?_
          refine o_rd rfl (po_iaddr rfl rfl (by exact fc_slice_32_45_3) (by first | omega | (simp only [List.length_nil, List.length_cons, List.length_append, List.length_replicate, List.length_set, List.length_map, List.length_take, List.length_drop]; omega)) (by first | omega | (simp only [List.length_nil, List.length_cons, List.length_append, List.length_replicate, List.length_set, List.length_map, List.length_take, List.length_drop]; omega))) (by first | exact fun _ h => h | exact ent) rfl rfl rfl ?_
          refine o_rd rfl (po_faddr_sl rfl (by omega) (by exact fc_field_45_1_1)) (by first | exact fun _ h => h | exact ent) rfl rfl rfl ?_
          refine o_rd rfl (po_load_sl rfl (List.getElem?_eq_getElem (by first | omega | (simp only [List.length_nil, List.length_cons, List.length_append, List.length_replicate, List.length_set, List.length_map, List.length_take, List.length_drop]; omega))) (by exact fc_flat_3) (by rfl)) (by first | exact fun _ h => h | exact ent) rfl rfl rfl ?_
          refine o_fr rfl (po_eq rfl rfl) rfl rfl rfl ?_
          refine o_fr rfl (po_pick_t rfl rfl) rfl rfl rfl ?_
          refine o_fr rfl (po_bf (po_move rfl) (decide_eq_false (fun e2 => hjp ⟨e1, e2⟩))) rfl rfl rfl ?_
          refine o_fr rfl (po_move rfl) rfl rfl rfl ?_
          refine o_fr rfl (po_move rfl) rfl rfl rfl ?_
          refine o_rd rfl (po_iaddr rfl rfl (by exact fc_slice_32_45_3) (by first | omega | (simp only [List.length_nil, List.length_cons, List.length_append, List.length_replicate, List.length_set, List.length_map, List.length_take, List.length_drop]; omega)) (by first | omega | (simp only [List.length_nil, List.length_cons, List.length_append, List.length_replicate, List.length_set, List.length_map, List.length_take, List.length_drop]; omega))) (by first | exact fun _ h => h | exact ent) rfl rfl rfl ?_
          refine o_rd rfl (po_faddr_sl rfl (by omega) (by exact fc_field_45_2_2)) (by first | exact fun _ h => h | exact ent) rfl rfl rfl ?_
          refine o_rd rfl (po_load_sl rfl (List.getElem?_eq_getElem (by first | omega | (simp only [List.length_nil, List.length_cons, List.length_append, List.length_replicate, List.length_set, List.length_map, List.length_take, List.length_drop]; omega))) (by exact fc_flat_3) (by rfl)) (by first | exact fun _ h => h | exact ent) rfl rfl rfl ?_
          refine o_fr rfl (po_move rfl) rfl rfl rfl ?_
          refine o_fr rfl (po_move rfl) rfl rfl rfl ?_
          refine o_rd rfl (po_iaddr rfl rfl (by exact fc_slice_32_45_3) (by first | omega | (simp only [List.length_nil, List.length_cons, List.length_append, List.length_replicate, List.length_set, List.length_map, List.length_take, List.length_drop]; omega)) (by first | omega | (simp only [List.length_nil, List.length_cons, List.length_append, List.length_replicate, List.length_set, List.length_map, List.length_take, List.length_drop]; omega))) (by first | exact fun _ h => h | exact ent) rfl rfl rfl ?_
          refine o_rd rfl (po_faddr_sl rfl (by omega) (by exact fc_field_45_2_2)) (by first | exact fun _ h => h | exact ent) rfl rfl rfl ?_
          refine o_rd rfl (po_load_sl rfl (List.getElem?_eq_getElem (by first | omega | (simp only [List.length_nil, List.length_cons, List.length_append, List.length_replicate, List.length_set, List.length_map, List.length_take, List.length_drop]; omega))) (by exact fc_flat_3) (by rfl)) (by first | exact fun _ h => h | exact ent) rfl rfl rfl ?_
          refine o_fr rfl (po_gt rfl rfl) rfl rfl rfl ?_
          refine o_fr rfl (po_pick_f rfl rfl) rfl rfl rfl ?_
          refine o_nil ?_
          refine at_then_wp ?_
          first | refine r_dec_f rfl (by omega) ?_ | refine r_nd_f rfl (by omega) ?_ | refine r_cond_f rfl (by omega) ?_
          refine r_skip ?_
          refine at_block_normal ?_
          refine at_then_wp ?_
          refine r_reg ?_
          refine ws (st_po (po_move rfl) rfl rfl rfl ?_)
          refine ws (st_po (po_add' rfl rfl (by omega) (by omega)) rfl rfl rfl ?_)
          refine ws (st_po (po_assign rfl) rfl rfl rfl ?_)
          refine s_nil ?_
          exact at_again (j + 1) (And.intro rfl (trivial)) (And.intro rfl (And.intro rfl (And.intro rfl (And.intro rfl (And.intro rfl (And.intro rfl (And.intro rfl (And.intro rfl (And.intro rfl (trivial)))))))))) (by omega) (by omega) ent
        · skip
          refine o_fr rfl (po_bf (po_move rfl) (decide_eq_false e1)) rfl rfl rfl ?_
          refine o_no rfl rfl rfl rfl ?_
          refine o_no rfl rfl rfl rfl ?_
          refine o_nor rfl (by first | exact fun _ h => h | exact ent) rfl rfl rfl ?_
          refine o_nor rfl (by first | exact fun _ h => h | exact ent) rfl rfl rfl ?_
          refine o_nor rfl (by first | exact fun _ h => h | exact ent) rfl rfl rfl ?_
          refine o_no rfl rfl rfl rfl ?_
          refine o_no rfl rfl rfl rfl ?_
          refine o_nor rfl (by first | exact fun _ h => h | exact ent) rfl rfl rfl ?_
          refine o_nor rfl (by first | exact fun _ h => h | exact ent) rfl rfl rfl ?_
          refine o_nor rfl (by first | exact fun _ h => h | exact ent) rfl rfl rfl ?_
          refine o_no rfl rfl rfl rfl ?_
          refine o_fr rfl (po_pick_f rfl rfl) rfl rfl rfl ?_
          refine o_fr rfl (po_move rfl) rfl rfl rfl ?_
          refine o_fr rfl (po_move rfl) rfl rfl rfl ?_
          refine o_fr rfl (po_move rfl) rfl rfl rfl ?_
          refine o_rd rfl (po_iaddr rfl rfl (by exact fc_slice_32_45_3) (by first | omega | (simp only [List.length_nil, List.length_cons, List.length_append, List.length_replicate, List.length_set, List.length_map, List.length_take, List.length_drop]; omega)) (by first | omega | (simp only [List.length_nil, List.length_cons, List.length_append, List.length_replicate, List.length_set, List.length_map, List.length_take, List.length_drop]; omega))) (by first | exact fun _ h => h | exact ent) rfl rfl rfl ?_
          refine o_rd rfl (po_faddr_sl rfl (by omega) (by exact fc_field_45_2_2)) (by first | exact fun _ h => h | exact ent) rfl rfl rfl ?_
          refine o_rd rfl (po_load_sl rfl (List.getElem?_eq_getElem (by first | omega | (simp only [List.length_nil, List.length_cons, List.length_append, List.length_replicate, List.length_set, List.length_map, List.length_take, List.length_drop]; omega))) (by exact fc_flat_3) (by rfl)) (by first | exact fun _ h => h | exact ent) rfl rfl rfl ?_
          refine o_fr rfl (po_move rfl) rfl rfl rfl ?_
          refine o_fr rfl (po_move rfl) rfl rfl rfl ?_
          refine o_rd rfl (po_iaddr rfl rfl (by exact fc_slice_32_45_3) (by first | omega | (simp only [List.length_nil, List.length_cons, List.length_append, List.length_replicate, List.length_set, List.length_map, List.length_take, List.length_drop]; omega)) (by first | omega | (simp only [List.length_nil, List.length_cons, List.length_append, List.length_replicate, List.length_set, List.length_map, List.length_take, List.length_drop]; omega))) (by first | exact fun _ h => h | exact ent) rfl rfl rfl ?_
          refine o_rd rfl (po_faddr_sl rfl (by omega) (by exact fc_field_45_2_2)) (by first | exact fun _ h => h | exact ent) rfl rfl rfl ?_
          refine o_rd rfl (po_load_sl rfl (List.getElem?_eq_getElem (by first | omega | (simp only [List.length_nil, List.length_cons, List.length_append, List.length_replicate, List.length_set, List.length_map, List.length_take, List.length_drop]; omega))) (by exact fc_flat_3) (by rfl)) (by first | exact fun _ h => h | exact ent) rfl rfl rfl ?_
          refine o_fr rfl (po_gt rfl rfl) rfl rfl rfl ?_
          refine o_fr rfl (po_pick_f rfl rfl) rfl rfl rfl ?_
          refine o_nil ?_
          refine at_then_wp ?_
          first | refine r_dec_f rfl (by omega) ?_ | refine r_nd_f rfl (by omega) ?_ | refine r_cond_f rfl (by omega) ?_
          refine r_skip ?_
          refine at_block_normal ?_
          refine at_then_wp ?_
          refine r_reg ?_
          refine ws (st_po (po_move rfl) rfl rfl rfl ?_)
          refine ws (st_po (po_add' rfl rfl (by omega) (by omega)) rfl rfl rfl ?_)
          refine ws (st_po (po_assign rfl) rfl rfl rfl ?_)
          refine s_nil ?_
          exact at_again (j + 1) (And.intro rfl (trivial)) (And.intro rfl (And.intro rfl (And.intro rfl (And.intro rfl (And.intro rfl (And.intro rfl (And.intro rfl (And.intro rfl (And.intro rfl (trivial)))))))))) (by omega) (by omega) ent
      · intro hjk
        refine r_exit ?_
        refine at_then_exit ?_
        refine at_then_exit ?_
        refine at_block_here ?_
        refine at_block_normal ?_
        refine at_then_wp ?_
        refine r_reg ?_
        refine ws (st_po (po_move rfl) rfl rfl rfl ?_)
        refine ws (st_po (po_add' rfl rfl (by omega) (by omega)) rfl rfl rfl ?_)
        refine ws (st_po (po_assign rfl) rfl rfl rfl ?_)
        refine s_nil ?_
        exact at_again (k + 1) (And.intro rfl (And.intro rfl (trivial))) (And.intro rfl (And.intro rfl (And.intro rfl (And.intro rfl (And.intro rfl (And.intro rfl (And.intro rfl (trivial)))))))) (by omega) (by omega) ent
  · intro hlt
    rw [List.take_of_length_le (by omega), hcnt]
    have hgt : gAt C t = C[t.toNat]'(by have := htc.2; omega) := gAt_get (by have := htc.2; omega)
    have hct : costN C t = gAt C t := by rw [costN, if_pos ⟨htc.2.1, by have := htc.2.2; omega⟩]
    have htl2 : 0 ≤ t ∧ t < C.length := ⟨htc.2.1, by have := htc.2.2; omega⟩
    have hmt := tile_may ok his'
    have htlen : (tileN f.m.g i).c.length ≤ 2^30 := by have := hmt.1; have := hmt.2.1; have := hmt.2.2.1; unfold Sized at *; have := mul_1k (a := (tileN f.m.g i).w) (b := (tileN f.m.g i).h) (by omega) (by omega) (by omega) (by omega); omega
    by_cases hown : sectorN W H t = i ∧ costN C t ≠ 255
    · skip
      rw [if_pos hown]
      refine r_exit ?_
      refine at_then_exit ?_
      refine at_then_exit ?_
      refine at_block_here ?_
      refine at_then_wp ?_
      refine r_seq ?_
      refine r_reg ?_
      refine ws (st_po (po_faddr rfl (by exact fc_field_24_0_0)) rfl rfl rfl ?_)
      refine ws (st_po (po_load rfl (by exact fc_flat_3) (by rfl)) rfl rfl rfl ?_)
      refine ws (st_po (po_faddr rfl (by exact fc_field_24_1_1)) rfl rfl rfl ?_)
      refine ws (st_po (po_load rfl (by exact fc_flat_3) (by rfl)) rfl rfl rfl ?_)
      refine ws (st_po (po_move rfl) rfl rfl rfl ?_)
      refine ws (st_call (co_fn rfl rfl) (ref_Sector W H t) (by infer_instance) rfl rfl rfl ?_)
      rintro v183 _ ⟨rfl, rfl⟩
      try dsimp only [List.cons_append, List.nil_append, GridS.l, GridS.p, MeshS.l, MeshS.lF, MeshS.p, FinderS.l, FinderS.p, FinderS.lF, RouteS.l, RouteS.p, GridS.lT, RouteS.lT]
      refine ws (st_po (po_move rfl) rfl rfl rfl ?_)
      refine ws (st_po (po_eq rfl rfl) rfl rfl rfl ?_)
      refine ws (st_po (po_bt (po_move rfl) (decide_eq_true (hown.1))) rfl rfl rfl ?_)
      refine ws (st_po (po_faddr rfl (by exact fc_field_24_2_2)) rfl rfl rfl ?_)
      refine ws (st_po (po_load rfl (by exact fc_flat_22) (by rfl)) rfl rfl rfl ?_)
      refine ws (st_po (po_move rfl) rfl rfl rfl ?_)
      refine ws (st_po (po_iaddr rfl rfl (by exact fc_slice_22_5_1) (by first | omega | (simp only [List.length_nil, List.length_cons, List.length_append, List.length_replicate, List.length_set, List.length_map, List.length_take, List.length_drop]; omega)) (by first | omega | (simp only [List.length_nil, List.length_cons, List.length_append, List.length_replicate, List.length_set, List.length_map, List.length_take, List.length_drop]; omega))) rfl rfl rfl ?_)
      refine ws (st_po (po_load_sl rfl (List.getElem?_eq_getElem (by first | omega | (simp only [List.length_nil, List.length_cons, List.length_append, List.length_replicate, List.length_set, List.length_map, List.length_take, List.length_drop]; omega))) (by exact fc_flat_5) (by rfl)) rfl rfl rfl ?_)
      refine ws (st_po (po_ne rfl rfl) rfl rfl rfl ?_)
      refine ws (st_po (po_pick_t rfl rfl) rfl rfl rfl ?_)
      refine ws (st_po (po_assign rfl) rfl rfl rfl ?_)
      refine s_nil ?_
      refine at_then_wp ?_
      refine r_seq ?_
      refine r_reg ?_
      refine ws (st_call (co_fn rfl rfl) (law16_told) (by infer_instance) rfl rfl rfl ?_)
      rintro v194 _ ⟨rfl, rfl⟩
      try dsimp only [List.cons_append, List.nil_append, GridS.l, GridS.p, MeshS.l, MeshS.lF, MeshS.p, FinderS.l, FinderS.p, FinderS.lF, RouteS.l, RouteS.p, GridS.lT, RouteS.lT]
      refine ws (st_po (po_bt (po_move rfl) (rfl)) rfl rfl rfl ?_)
      refine ws (st_po (po_move rfl) rfl rfl rfl ?_)
      refine ws (st_po (po_pick_t rfl rfl) rfl rfl rfl ?_)
      refine ws (st_po (po_bt (po_move rfl) (rfl)) rfl rfl rfl ?_)
      refine ws (st_po (po_loada rfl (by exact fc_agg_41_3) (by rfl)) rfl rfl rfl ?_)
      refine ws (st_po (po_move rfl) rfl rfl rfl ?_)
      refine ws (st_call (co_fn rfl rfl) (ref_MaySeeds tc v59 (tileN f.m.g i) ys hmt htlen (by omega) hmy) (by infer_instance) rfl rfl rfl ?_)
      rintro v201 _ ⟨rfl, rfl⟩
      try dsimp only [List.cons_append, List.nil_append, GridS.l, GridS.p, MeshS.l, MeshS.lF, MeshS.p, FinderS.l, FinderS.p, FinderS.lF, RouteS.l, RouteS.p, GridS.lT, RouteS.lT]
      refine ws (st_po (po_pick_t rfl rfl) rfl rfl rfl ?_)
      refine ws (st_po (po_bt (po_move rfl) (rfl)) rfl rfl rfl ?_)
      refine ws (st_po (po_move rfl) rfl rfl rfl ?_)
      refine ws (st_po (po_le rfl rfl) rfl rfl rfl ?_)
      refine ws (st_po (po_pick_t rfl rfl) rfl rfl rfl ?_)
      refine ws (st_po (po_bt (po_move rfl) (decide_eq_true (by decide))) rfl rfl rfl ?_)
      refine ws (st_po (po_move rfl) rfl rfl rfl ?_)
      refine ws (st_po (po_eq rfl rfl) rfl rfl rfl ?_)
      refine ws (st_po (po_move rfl) rfl rfl rfl ?_)
      refine ws (st_po (po_beq rfl rfl (by exact fc_bool_4)) rfl rfl rfl ?_)
      refine ws (st_po (po_pick_t rfl rfl) rfl rfl rfl ?_)
      refine ws (st_po (po_assign rfl) rfl rfl rfl ?_)
      refine s_nil ?_
      refine at_then_wp ?_
      refine r_ret ?_
      have h255 : C[t.toNat]'(by omega) ≠ 255 := by rw [← hgt, ← hct]; exact hown.2
      refine at_ret1 rfl (rv_tmp rfl) ⟨_, ⟨by simp [h255], rfl⟩, ?_⟩
      try dsimp only [List.cons_append, List.nil_append, GridS.l, GridS.p, MeshS.l, MeshS.lF, MeshS.p, FinderS.l, FinderS.p, FinderS.lF, RouteS.l, RouteS.p, GridS.lT, RouteS.lT]
      exact ent
    · skip
      rw [if_neg hown]
      refine r_exit ?_
      refine at_then_exit ?_
      refine at_then_exit ?_
      refine at_block_here ?_
      refine at_then_wp ?_
      refine r_seq ?_
      refine r_reg ?_
      refine ws (st_po (po_faddr rfl (by exact fc_field_24_0_0)) rfl rfl rfl ?_)
      refine ws (st_po (po_load rfl (by exact fc_flat_3) (by rfl)) rfl rfl rfl ?_)
      refine ws (st_po (po_faddr rfl (by exact fc_field_24_1_1)) rfl rfl rfl ?_)
      refine ws (st_po (po_load rfl (by exact fc_flat_3) (by rfl)) rfl rfl rfl ?_)
      refine ws (st_po (po_move rfl) rfl rfl rfl ?_)
      refine ws (st_call (co_fn rfl rfl) (ref_Sector W H t) (by infer_instance) rfl rfl rfl ?_)
      rintro v183 _ ⟨rfl, rfl⟩
      try dsimp only [List.cons_append, List.nil_append, GridS.l, GridS.p, MeshS.l, MeshS.lF, MeshS.p, FinderS.l, FinderS.p, FinderS.lF, RouteS.l, RouteS.p, GridS.lT, RouteS.lT]
      refine ws (st_po (po_move rfl) rfl rfl rfl ?_)
      refine ws (st_po (po_eq rfl rfl) rfl rfl rfl ?_)
      by_cases hse : sectorN W H t = i
      · skip
        refine ws (st_po (po_bt (po_move rfl) (decide_eq_true hse)) rfl rfl rfl ?_)
        refine ws (st_po (po_faddr rfl (by exact fc_field_24_2_2)) rfl rfl rfl ?_)
        refine ws (st_po (po_load rfl (by exact fc_flat_22) (by rfl)) rfl rfl rfl ?_)
        refine ws (st_po (po_move rfl) rfl rfl rfl ?_)
        refine ws (st_po (po_iaddr rfl rfl (by exact fc_slice_22_5_1) (by first | omega | (simp only [List.length_nil, List.length_cons, List.length_append, List.length_replicate, List.length_set, List.length_map, List.length_take, List.length_drop]; omega)) (by first | omega | (simp only [List.length_nil, List.length_cons, List.length_append, List.length_replicate, List.length_set, List.length_map, List.length_take, List.length_drop]; omega))) rfl rfl rfl ?_)
        refine ws (st_po (po_load_sl rfl (List.getElem?_eq_getElem (by first | omega | (simp only [List.length_nil, List.length_cons, List.length_append, List.length_replicate, List.length_set, List.length_map, List.length_take, List.length_drop]; omega))) (by exact fc_flat_5) (by rfl)) rfl rfl rfl ?_)
        refine ws (st_po (po_ne rfl rfl) rfl rfl rfl ?_)
        refine ws (st_po (po_pick_t rfl rfl) rfl rfl rfl ?_)
        refine ws (st_po (po_assign rfl) rfl rfl rfl ?_)
        refine s_nil ?_
        refine at_then_wp ?_
        refine r_seq ?_
        refine r_reg ?_
        refine ws (st_call (co_fn rfl rfl) (law16_told) (by infer_instance) rfl rfl rfl ?_)
        rintro v194 _ ⟨rfl, rfl⟩
        try dsimp only [List.cons_append, List.nil_append, GridS.l, GridS.p, MeshS.l, MeshS.lF, MeshS.p, FinderS.l, FinderS.p, FinderS.lF, RouteS.l, RouteS.p, GridS.lT, RouteS.lT]
        refine ws (st_po (po_bt (po_move rfl) (rfl)) rfl rfl rfl ?_)
        refine ws (st_po (po_move rfl) rfl rfl rfl ?_)
        refine ws (st_po (po_pick_t rfl rfl) rfl rfl rfl ?_)
        refine ws (st_po (po_bt (po_move rfl) (rfl)) rfl rfl rfl ?_)
        refine ws (st_po (po_loada rfl (by exact fc_agg_41_3) (by rfl)) rfl rfl rfl ?_)
        refine ws (st_po (po_move rfl) rfl rfl rfl ?_)
        refine ws (st_call (co_fn rfl rfl) (ref_MaySeeds tc v59 (tileN f.m.g i) ys hmt htlen (by omega) hmy) (by infer_instance) rfl rfl rfl ?_)
        rintro v201 _ ⟨rfl, rfl⟩
        try dsimp only [List.cons_append, List.nil_append, GridS.l, GridS.p, MeshS.l, MeshS.lF, MeshS.p, FinderS.l, FinderS.p, FinderS.lF, RouteS.l, RouteS.p, GridS.lT, RouteS.lT]
        refine ws (st_po (po_pick_t rfl rfl) rfl rfl rfl ?_)
        refine ws (st_po (po_bt (po_move rfl) (rfl)) rfl rfl rfl ?_)
        refine ws (st_po (po_move rfl) rfl rfl rfl ?_)
        refine ws (st_po (po_le rfl rfl) rfl rfl rfl ?_)
        refine ws (st_po (po_pick_t rfl rfl) rfl rfl rfl ?_)
        refine ws (st_po (po_bt (po_move rfl) (decide_eq_true (by decide))) rfl rfl rfl ?_)
        refine ws (st_po (po_move rfl) rfl rfl rfl ?_)
        refine ws (st_po (po_eq rfl rfl) rfl rfl rfl ?_)
        refine ws (st_po (po_move rfl) rfl rfl rfl ?_)
        refine ws (st_po (po_beq rfl rfl (by exact fc_bool_4)) rfl rfl rfl ?_)
        refine ws (st_po (po_pick_t rfl rfl) rfl rfl rfl ?_)
        refine ws (st_po (po_assign rfl) rfl rfl rfl ?_)
        refine s_nil ?_
        refine at_then_wp ?_
        refine r_ret ?_
        have h255 : C[t.toNat]'(by omega) = 255 := by rw [← hgt, ← hct]; exact Classical.not_not.1 fun h => hown ⟨hse, h⟩
        refine at_ret1 rfl (rv_tmp rfl) ⟨_, ⟨by simp [h255], rfl⟩, ?_⟩
        try dsimp only [List.cons_append, List.nil_append, GridS.l, GridS.p, MeshS.l, MeshS.lF, MeshS.p, FinderS.l, FinderS.p, FinderS.lF, RouteS.l, RouteS.p, GridS.lT, RouteS.lT]
        exact ent
      · skip
        refine ws (st_po (po_bf (po_move rfl) (decide_eq_false hse)) rfl rfl rfl ?_)
        refine ws (st_no rfl rfl rfl ?_)
        refine ws (st_no rfl rfl rfl ?_)
        refine ws (st_no rfl rfl rfl ?_)
        refine ws (st_no rfl rfl rfl ?_)
        refine ws (st_no rfl rfl rfl ?_)
        refine ws (st_no rfl rfl rfl ?_)
        refine ws (st_po (po_pick_f rfl rfl) rfl rfl rfl ?_)
        refine ws (st_po (po_assign rfl) rfl rfl rfl ?_)
        refine s_nil ?_
        refine at_then_wp ?_
        refine r_seq ?_
        refine r_reg ?_
        refine ws (st_call (co_fn rfl rfl) (law16_told) (by infer_instance) rfl rfl rfl ?_)
        rintro v194 _ ⟨rfl, rfl⟩
        try dsimp only [List.cons_append, List.nil_append, GridS.l, GridS.p, MeshS.l, MeshS.lF, MeshS.p, FinderS.l, FinderS.p, FinderS.lF, RouteS.l, RouteS.p, GridS.lT, RouteS.lT]
        refine ws (st_po (po_bt (po_move rfl) (rfl)) rfl rfl rfl ?_)
        refine ws (st_po (po_move rfl) rfl rfl rfl ?_)
        refine ws (st_po (po_pick_t rfl rfl) rfl rfl rfl ?_)
        refine ws (st_po (po_bt (po_move rfl) (rfl)) rfl rfl rfl ?_)
        refine ws (st_po (po_loada rfl (by exact fc_agg_41_3) (by rfl)) rfl rfl rfl ?_)
        refine ws (st_po (po_move rfl) rfl rfl rfl ?_)
        refine ws (st_call (co_fn rfl rfl) (ref_MaySeeds tc v59 (tileN f.m.g i) ys hmt htlen (by omega) hmy) (by infer_instance) rfl rfl rfl ?_)
        rintro v201 _ ⟨rfl, rfl⟩
        try dsimp only [List.cons_append, List.nil_append, GridS.l, GridS.p, MeshS.l, MeshS.lF, MeshS.p, FinderS.l, FinderS.p, FinderS.lF, RouteS.l, RouteS.p, GridS.lT, RouteS.lT]
        refine ws (st_po (po_pick_t rfl rfl) rfl rfl rfl ?_)
        refine ws (st_po (po_bt (po_move rfl) (rfl)) rfl rfl rfl ?_)
        refine ws (st_po (po_move rfl) rfl rfl rfl ?_)
        refine ws (st_po (po_le rfl rfl) rfl rfl rfl ?_)
        refine ws (st_po (po_pick_t rfl rfl) rfl rfl rfl ?_)
        refine ws (st_po (po_bt (po_move rfl) (decide_eq_true (by decide))) rfl rfl rfl ?_)
        refine ws (st_po (po_move rfl) rfl rfl rfl ?_)
        refine ws (st_po (po_eq rfl rfl) rfl rfl rfl ?_)
        refine ws (st_po (po_move rfl) rfl rfl rfl ?_)
        refine ws (st_po (po_beq rfl rfl (by exact fc_bool_4)) rfl rfl rfl ?_)
        refine ws (st_po (po_pick_t rfl rfl) rfl rfl rfl ?_)
        refine ws (st_po (po_assign rfl) rfl rfl rfl ?_)
        refine s_nil ?_
        refine at_then_wp ?_
        refine r_ret ?_
        refine at_ret1 rfl (rv_tmp rfl) ⟨_, ⟨by simp, rfl⟩, ?_⟩
        try dsimp only [List.cons_append, List.nil_append, GridS.l, GridS.p, MeshS.l, MeshS.lF, MeshS.p, FinderS.l, FinderS.p, FinderS.lF, RouteS.l, RouteS.p, GridS.lT, RouteS.lT]
        exact ent
end Hd
end
