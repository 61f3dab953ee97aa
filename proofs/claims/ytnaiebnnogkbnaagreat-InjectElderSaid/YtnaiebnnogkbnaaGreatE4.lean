/- Contracts of functions of the program, and the laws of memory that they are proved with: part 4. -/
import Derived.Test.YtnaiebnnogkbnaaGreatE3
set_option linter.unusedVariables false
set_option linter.unusedSimpArgs false
section
namespace Hd
set_option maxRecDepth 100000
open Go

/-- a sector's nodes and how far they are from each other, of a grid as it is -/
structure PartOk (g : GridS) (i : Int) (x : PartS) : Prop where
  nodes : x.nodes = nodesN g.w g.h g.c i
  len : x.dist.length = x.nodes.length * x.nodes.length
  rng : ∀ v ∈ x.dist, -1 ≤ v ∧ v ≤ 2147483647
  col : ∀ j y, x.nodes[j]? = some y → ∃ d : List Int, d.length = (tileN g i).c.length ∧ IsDist (tileN g i).w (tileN g i).h (tileN g i).c (srcS (oneS (localN g.w g.h y))) (dF d) ∧
    ∀ k z, x.nodes[k]? = some z → x.dist[k * x.nodes.length + j]? = some (if gAt d (localN g.w g.h z) = 1099511627776 then -1 else gAt d (localN g.w g.h z))
/-- a mesh as the program keeps it -/
structure MeshOk (m : MeshS) : Prop where
  g : GridOk m.g
  len : (m.ps.length : Int) = acrN m.g.w * acrN m.g.h
  vs : ∀ v ∈ m.g.vs, 1 ≤ v ∧ v ≤ m.g.ep
  cnt : 0 ≤ m.count ∧ m.count ≤ 18446744073709551615
  cl : m.clean ≤ m.g.ep
  /-- a part of the version that the grid has is as the grid is -/
  part : ∀ (i : Nat) x, m.ps[i]? = some x → m.g.vs[i]? = some x.ver → PartOk m.g i x
  /-- if the mesh is clean as of the grid's epoch, all are -/
  clean : m.clean = m.g.ep → ∀ (i : Nat) x, m.ps[i]? = some x → m.g.vs[i]? = some x.ver

theorem nopart_sat (n : Nat) : ∀ {L : List HP} (h : Frag), Sat L h → Sat (All ((List.replicate n (⟨0, ⟨none, 0, 0⟩, [], ⟨none, 0, 0⟩, []⟩ : PartS)).map slP) :: L) h := by
  induction n with
  | zero => intro L h s; exact all_nil.2 s
  | succ n ih =>
    intro L h s
    rw [List.replicate_succ, List.map_cons]
    refine all_cons.2 (sat_all.2 ?_)
    exact (Has.nilSl eI _).out h ((Has.nilSl eW _).out h (ih h s))

/-- New, over a grid -/
theorem mesh_New (gr : GridS) (ok : GridOk gr) (hv : ∀ v ∈ gr.vs, 1 ≤ v ∧ v ≤ gr.ep) : Spec PP 30 #[gr.p] gr.l (fun v M => ∃ m : MeshS, v = m.p ∧ M = m.l ∧ m.g = gr ∧ MeshOk m) := by
  have hap := acr_pos ok.may
  have hmul := mul_1k (a := acrN gr.w) (b := acrN gr.h) (by omega) (by omega) (by omega) (by omega)
  have hse : secsN gr.w gr.h = (acrN gr.w, acrN gr.h) := by rw [secsN, if_pos ok.may]
  refine spec_of (Go.Proofs.Tryz.func30) rfl rfl rfl (by exact fc_enters_30) ?_
  intro g F
  try dsimp only [List.cons_append, List.nil_append, GridS.l, GridS.p, MeshS.l, MeshS.lF, MeshS.p]
  refine r_seq ?_
  refine r_reg ?_
  refine ws (st_po (po_assign rfl) rfl rfl rfl ?_)
  refine s_nil ?_
  refine at_then_wp ?_
  refine r_seq ?_
  refine r_seq ?_
  refine r_reg ?_
  refine ws (st_po (po_move rfl) rfl rfl rfl ?_)
  refine ws (st_po (po_peq rfl rfl (by exact fc_ptr_27)) rfl rfl rfl ?_)
  refine s_nil ?_
  refine at_then_wp ?_
  refine r_cond_f rfl (rfl) ?_
  refine r_skip ?_
  refine at_then_wp ?_
  refine r_seq ?_
  refine r_reg ?_
  refine ws (st_po (po_move rfl) rfl rfl rfl ?_)
  refine ws (st_call (co_fn rfl rfl) (grid_Size gr) (by infer_instance) rfl rfl rfl ?_)
  rintro v9 _ ⟨rfl, rfl⟩
  try dsimp only [List.cons_append, List.nil_append, GridS.l, GridS.p, MeshS.l, MeshS.lF, MeshS.p]
  refine ws (st_po (po_extract rfl rfl) rfl rfl rfl ?_)
  refine ws (st_po (po_extract rfl rfl) rfl rfl rfl ?_)
  refine ws (st_call (co_fn rfl rfl) (where_Sectors gr.w gr.h) (by infer_instance) rfl rfl rfl ?_)
  rintro v12 _ ⟨rfl, rfl⟩
  try dsimp only [List.cons_append, List.nil_append, GridS.l, GridS.p, MeshS.l, MeshS.lF, MeshS.p]
  refine ws (st_po (po_move rfl) rfl rfl rfl ?_)
  refine ws (st_po (po_extract rfl rfl) rfl rfl rfl ?_)
  refine ws (st_po (po_extract rfl rfl) rfl rfl rfl ?_)
  refine ws (st_po (po_assign rfl) rfl rfl rfl ?_)
  refine ws (st_po (po_assign rfl) rfl rfl rfl ?_)
  refine s_nil ?_
  refine at_then_wp ?_
  refine r_seq ?_
  rw [hse]
  dsimp only
  refine r_reg ?_
  refine ws (st_po (po_move rfl) rfl rfl rfl ?_)
  refine ws (st_po (po_move rfl) rfl rfl rfl ?_)
  refine ws (st_po (po_move rfl) rfl rfl rfl ?_)
  refine ws (st_po (po_mul' rfl rfl (by omega) (by omega)) rfl rfl rfl ?_)
  refine ws (st_xo (xo_make eP (⟨0,⟨none,0,0⟩,[],⟨none,0,0⟩,[]⟩) rfl rfl (by exact fc_slice_99_124_3) (by exact fc_elem_124_3_56) (by exact fc_zero_124) rfl (by first | omega | (simp only [List.length_nil, List.length_cons, List.length_append, List.length_replicate, List.length_set, List.length_map, List.length_take, List.length_drop]; omega)) (by first | omega | (simp only [List.length_nil, List.length_cons, List.length_append, List.length_replicate, List.length_set, List.length_map, List.length_take, List.length_drop]; omega)) (by first | omega | (simp only [List.length_nil, List.length_cons, List.length_append, List.length_replicate, List.length_set, List.length_map, List.length_take, List.length_drop]; omega))) rfl rfl rfl ?_)
  rintro v19 _ rfl
  refine ws (st_po (po_build1 rfl (by exact fc_zero_101) (by exact fc_places_101_0_1) (by exact fc_info_101) rfl) rfl rfl rfl ?_)
  refine ws (st_xo (xo_box rfl rfl) rfl rfl rfl ?_)
  rintro _ _ ⟨b21, rfl, rfl⟩
  refine ws (st_po (po_assign rfl) rfl rfl rfl ?_)
  refine s_nil ?_
  refine at_then_wp ?_
  refine r_ret ?_
  refine at_ent (nopart_sat (acrN gr.w * acrN gr.h).toNat) ?_
  refine at_ret1 rfl (rv_tmp rfl) ⟨_, ⟨⟨b21, gr, v19, List.replicate (acrN gr.w * acrN gr.h).toNat ⟨0, ⟨none, 0, 0⟩, [], ⟨none, 0, 0⟩, []⟩, 0, 0⟩, rfl, rfl, rfl, ok, by simp; omega, hv, by simp, by have := ok.ep0; simp; omega, fun i x h1 h2 => by
      have := List.eq_of_mem_replicate (List.mem_of_getElem? h1); subst this
      exact absurd (hv _ (List.mem_of_getElem? h2)).1 (by show ¬ (1 : Int) ≤ 0; decide), fun h i x h1 => by
      have h0 : (0 : Int) = gr.ep := h
      have hl : i < gr.vs.length := by have := lt_of_get h1; simp at this; have := ok.vlen; omega
      have := hv _ (List.getElem_mem hl); omega⟩, ?_⟩
  try dsimp only [List.cons_append, List.nil_append, GridS.l, GridS.p, MeshS.l, MeshS.lF, MeshS.p]
  exact ent

theorem rd_slv {α : Type} {E : Enc α} {v : Value} {xs : List α} {L : List HP} [m : Rd L v α E xs] : ∀ h, Sat L h → ∃ s : SlV, v = s.v := fun h hs => by
  rcases m.out h hs with ⟨e, -⟩ | ⟨b, off, cap, e, -, -⟩
  · exact ⟨⟨none, 0, 0⟩, e⟩
  · exact ⟨⟨_, _, _⟩, e⟩
/-- no way is -1 -/
def wInf (v : Int) : Int := if v = 1099511627776 then -1 else v
def fillW (out : List Int) (k : Nat) : List Int := (out.map wInf).take k ++ List.replicate (out.length - k) 0
theorem fillW_len {out : List Int} {k : Nat} (h : k ≤ out.length) : (fillW out k).length = out.length := by simp [fillW]; omega
theorem fillW_set {out : List Int} {k : Nat} (h : k < out.length) : (fillW out k).set k (wInf out[k]) = fillW out (k + 1) := by
  unfold fillW
  have hl : ((out.map wInf).take k).length = k := by simp; omega
  rw [List.set_append_right _ _ (by omega), hl, Nat.sub_self, show out.length - k = (out.length - (k + 1)) + 1 by omega, List.replicate_succ, List.set_cons_zero, take_snoc _ k (by simpa using h)]
  simp
theorem fillW_0 (out : List Int) : List.replicate out.length 0 = fillW out 0 := by simp [fillW]
theorem fillW_n (out : List Int) : fillW out out.length = out.map wInf := by simp [fillW, List.take_of_length_le]
theorem col_rng {t : Tile} {l out : List Int} (ok : LocsOk t l) (hl : out.length = l.length * l.length) (hc : ∀ j, j < l.length → Col t l out j) : ∀ v ∈ out, v = 1099511627776 ∨ (0 ≤ v ∧ v ≤ 65280) := by
  intro v hv
  obtain ⟨k, hk, rfl⟩ := List.getElem_of_mem hv
  have hn : 0 < l.length := by
    rcases Nat.eq_zero_or_pos l.length with e | e
    · rw [hl, e] at hk; simp at hk
    · exact e
  have hkj : k % l.length < l.length := Nat.mod_lt _ hn
  have hki : k / l.length < l.length := Nat.div_lt_of_lt_mul (by rw [← hl]; exact hk)
  obtain ⟨x, d, hx, hdl, hd, hcol⟩ := hc _ hkj
  have h2 := hcol (k / l.length) l[k / l.length] (List.getElem?_eq_getElem hki)
  rw [Nat.mul_comm, Nat.div_add_mod, List.getElem?_eq_getElem hk] at h2
  have hop := ok.op _ (List.getElem_mem hki)
  have hdf : dF d l[k / l.length] = gAt d l[k / l.length] := by rw [dF, if_pos ⟨hop.1, by rw [hdl]; exact hop.2.1⟩]
  have hI : INF = 1099511627776 := rfl
  have hr := hd.rng l[k / l.length]
  have hb := dist_bound ok.bt hd (K := 0) (fun c k ⟨s, hs, e1, e2⟩ => by
    have : s = ⟨x, 4, 0⟩ := by simpa using hs
    subst this; rw [← e2]; exact Int.le_refl _) (by decide) l[k / l.length]
  have hsm := ok.small
  rw [hdf] at hr hb
  have h3 := Option.some.inj h2
  rw [h3]
  omega

theorem part_of {g : GridS} (ok : GridOk g) {i : Int} (hi : IsS g.w g.h i) {xs out : List Int} {sn sd : SlV} {ver : Int} (hlo : LocsOk (tileN g i) xs) (hxe : xs = (nodesN g.w g.h g.c i).map (localN g.w g.h)) (hol : out.length = xs.length * xs.length) (hcol : ∀ j, j < xs.length → Col (tileN g i) xs out j)
    (hcr : ∀ v ∈ out, v = 1099511627776 ∨ (0 ≤ v ∧ v ≤ 65280)) : PartOk g i ⟨ver, sn, nodesN g.w g.h g.c i, sd, out.map wInf⟩ := by
  have hxl : xs.length = (nodesN g.w g.h g.c i).length := by rw [hxe, List.length_map]
  refine ⟨rfl, by show (out.map wInf).length = _; rw [List.length_map, hol, hxl], fun v hv => ?_, fun j y hy => ?_⟩
  · obtain ⟨u, hu, rfl⟩ := List.mem_map.1 hv
    unfold wInf
    rcases hcr u hu with e | e
    · rw [if_pos e]; omega
    · split <;> omega
  · have hj : j < xs.length := by rw [hxl]; exact lt_of_get hy
    obtain ⟨x, d, h1, h2, h3, h4⟩ := hcol j hj
    have hxj : x = localN g.w g.h y := by
      rw [hxe, List.getElem?_map] at h1
      have hy' : (nodesN g.w g.h g.c i)[j]? = some y := hy
      rw [hy'] at h1; exact (Option.some.inj h1).symm
    subst hxj
    refine ⟨d, h2, h3, fun k z hz => ?_⟩
    have hz' : (nodesN g.w g.h g.c i)[k]? = some z := hz
    have := h4 k (localN g.w g.h z) (by rw [hxe, List.getElem?_map, hz']; rfl)
    show (out.map wInf)[k * (nodesN g.w g.h g.c i).length + j]? = _
    rw [List.getElem?_map, ← hxl, this]; rfl
theorem mesh_make (m : MeshS) (okg : GridOk m.g) (i : Int) (hi : IsS m.g.w m.g.h i) : Spec PP 91 #[m.p, .int .i64 i] m.l
    (fun v M => ∃ x : PartS, v = .agg #[.int .i64 x.ver, x.n.v, x.d.v] ∧ M = m.l ++ [slP x] ∧ PartOk m.g i x ∧ m.g.vs[i.toNat]? = some x.ver) := by
  have hi0 := hi.2
  have hvl := okg.vlen
  have hnl := nodes_len m.g.w m.g.h m.g.c i
  have hlo := locs_ok okg hi
  have hver : (if 0 ≤ i ∧ i < m.g.vs.length then cAt m.g.vs i else 0) = m.g.vs[i.toNat]'(by omega) := by rw [if_pos (by omega)]; exact gAt_get (by omega)
  refine spec_of (Go.Proofs.Tryz.func91) rfl rfl rfl (by exact fc_enters_91) ?_
  intro g F
  try dsimp only [List.cons_append, List.nil_append, GridS.l, GridS.p, MeshS.l, MeshS.lF, MeshS.p]
  refine r_seq ?_
  refine r_reg ?_
  refine ws (st_xo (xo_alloc (by exact fc_zero_124)) rfl rfl rfl ?_)
  rintro _ _ ⟨b4, rfl, rfl⟩
  refine s_nil ?_
  refine at_then_wp ?_
  refine r_seq ?_
  refine r_reg ?_
  refine ws (st_po (po_move rfl) rfl rfl rfl ?_)
  refine ws (st_po (po_nil rfl) rfl rfl rfl ?_)
  refine ws (st_po (po_faddr rfl (by exact fc_field_101_0_0)) rfl rfl rfl ?_)
  refine ws (st_po (po_load rfl (by exact fc_flat_27) (by rfl)) rfl rfl rfl ?_)
  refine ws (st_call (co_fn rfl rfl) (grid_Size m.g) (by infer_instance) rfl rfl rfl ?_)
  rintro v22 _ ⟨rfl, rfl⟩
  try dsimp only [List.cons_append, List.nil_append, GridS.l, GridS.p, MeshS.l, MeshS.lF, MeshS.p]
  refine ws (st_po (po_move rfl) rfl rfl rfl ?_)
  refine ws (st_po (po_extract rfl rfl) rfl rfl rfl ?_)
  refine ws (st_po (po_extract rfl rfl) rfl rfl rfl ?_)
  refine ws (st_po (po_assign rfl) rfl rfl rfl ?_)
  refine ws (st_po (po_assign rfl) rfl rfl rfl ?_)
  refine s_nil ?_
  refine at_then_wp ?_
  refine r_seq ?_
  refine r_reg ?_
  refine ws (st_po (po_move rfl) rfl rfl rfl ?_)
  refine ws (st_po (po_nil rfl) rfl rfl rfl ?_)
  refine ws (st_po (po_faddr rfl (by exact fc_field_101_0_0)) rfl rfl rfl ?_)
  refine ws (st_po (po_load rfl (by exact fc_flat_27) (by rfl)) rfl rfl rfl ?_)
  refine ws (st_po (po_move rfl) rfl rfl rfl ?_)
  refine ws (st_call (co_fn rfl rfl) (grid_Tile m.g i okg hi) (by infer_instance) rfl rfl rfl ?_)
  rintro v31 _ ⟨tc, rfl, rfl⟩
  try dsimp only [List.cons_append, List.nil_append, GridS.l, GridS.p, MeshS.l, MeshS.lF, MeshS.p]
  refine ws (st_po (po_move rfl) rfl rfl rfl ?_)
  refine ws (st_po (po_extract rfl rfl) rfl rfl rfl ?_)
  refine ws (st_po (po_extract rfl rfl) rfl rfl rfl ?_)
  refine ws (st_xo (xo_alloc (by exact fc_zero_41)) rfl rfl rfl ?_)
  rintro _ _ ⟨b7, rfl, rfl⟩
  refine ws (st_so (so_storea1 rfl rfl (by exact fc_agg_41_3) rfl rfl) rfl rfl ?_)
  refine ws (st_po (po_assign rfl) rfl rfl rfl ?_)
  refine s_nil ?_
  refine at_then_wp ?_
  refine r_joink (S := Nat × Value) (fun ⟨b9, nv⟩ => [(9, .pointer (some ⟨b9, 0, none⟩))]) [(4, _), (5, _), (6, _), (7, _)] (fun ⟨b9, nv⟩ => Blk b9 124 [.int .i64 (if 0 ≤ i ∧ i < m.g.vs.length then cAt m.g.vs i else 0), nv, .slice none 0 0] :: Sl eI nv (nodesN m.g.w m.g.h m.g.c i) :: Blk b7 41 [.int .i64 (tileN m.g i).w, .int .i64 (tileN m.g i).h, tc] :: Sl eB tc (tileN m.g i).c :: Blk b4 124 [.int .i64 0, .slice none 0 0, .slice none 0 0] :: m.lF F) (fun ⟨b9, nv⟩ => True) (And.intro rfl (And.intro rfl (And.intro rfl (And.intro rfl (trivial))))) ?_ ?_
  · skip
    refine r_tree [14] _ 15 fc_mixed (by kernel_rfl) (fun _ h => h) ?_
    refine t_fr (i := 0) (by kernel_rfl) rfl (po_move rfl) rfl rfl rfl ?_
    refine t_fr (i := 1) (by kernel_rfl) rfl (po_nil rfl) rfl rfl rfl ?_
    refine t_fr (i := 2) (by kernel_rfl) rfl (po_faddr rfl (by exact fc_field_101_0_0)) rfl rfl rfl ?_
    refine t_rd (i := 3) (by kernel_rfl) rfl (po_load rfl (by exact fc_flat_27) (by rfl)) (by first | exact fun _ h => h | exact ent) rfl rfl rfl ?_
    refine t_fr (i := 4) (by kernel_rfl) rfl (po_move rfl) rfl rfl rfl ?_
    refine t_fr (i := 6) (by kernel_rfl) rfl (po_move rfl) rfl rfl rfl ?_
    refine t_fr (i := 7) (by kernel_rfl) rfl (po_nil rfl) rfl rfl rfl ?_
    refine t_fr (i := 8) (by kernel_rfl) rfl (po_faddr rfl (by exact fc_field_101_0_0)) rfl rfl rfl ?_
    refine t_rd (i := 9) (by kernel_rfl) rfl (po_load rfl (by exact fc_flat_27) (by rfl)) (by first | exact fun _ h => h | exact ent) rfl rfl rfl ?_
    refine t_fr (i := 10) (by kernel_rfl) rfl (po_move rfl) rfl rfl rfl ?_
    refine t_br2 (i := 5) (j := 13) (by kernel_rfl) ?_ ?_
    · skip
      refine tb rfl (st_call (co_fn rfl rfl) (grid_Version m.g i) (by infer_instance) rfl rfl rfl ?_)
      rintro v39 _ ⟨rfl, rfl⟩
      try dsimp only [List.cons_append, List.nil_append, GridS.l, GridS.p, MeshS.l, MeshS.lF, MeshS.p]
      refine ⟨fun _ => (by first | exact fun _ h => h | exact ent), ?_⟩
      refine t_br2 (i := 11) (j := 13) (by kernel_rfl) ?_ ?_
      · skip
        refine tb rfl (st_call (co_fn rfl rfl) (border_Nodes m.g i okg.bytes) (by infer_instance) rfl rfl rfl ?_)
        rintro v45 _ rfl
        try dsimp only [List.cons_append, List.nil_append, GridS.l, GridS.p, MeshS.l, MeshS.lF, MeshS.p]
        refine ⟨fun _ => (by first | exact fun _ h => h | exact ent), ?_⟩
        refine t_br2 (i := 12) (j := 13) (by kernel_rfl) ?_ ?_
        · skip
          refine tb rfl (st_po (po_build1 rfl (by exact fc_zero_124) (by exact fc_places_124_0_1) (by exact fc_info_124) rfl) rfl rfl rfl ?_)
          refine ⟨fun _ => (by first | exact fun _ h => h | exact ent), ?_⟩
          refine t_st (i := 13) (by kernel_rfl) rfl (st_xo (xo_alloc (by exact fc_zero_124)) rfl rfl rfl ?_)
          rintro _ _ ⟨b9, rfl, rfl⟩
          refine ⟨fun _ => (by first | exact fun _ h => h | exact ent), ?_⟩
          refine t_st (i := 14) (by kernel_rfl) rfl (st_so (so_storea1 rfl rfl (by exact fc_agg_124_3) rfl rfl) rfl rfl ?_)
          refine ⟨fun h => late_no h (by kernel_rfl), ?_⟩
          refine t_nil (by kernel_rfl) ?_
          exact at_join ((b9, v45)) (And.intro rfl (trivial)) (And.intro rfl (And.intro rfl (And.intro rfl (And.intro rfl (trivial))))) (trivial) ent
        · skip
          refine tb rfl (st_xo (xo_alloc (by exact fc_zero_124)) rfl rfl rfl ?_)
          rintro _ _ ⟨b9, rfl, rfl⟩
          refine ⟨fun _ => (by first | exact fun _ h => h | exact ent), ?_⟩
          refine t_st (i := 12) (by kernel_rfl) rfl (st_po (po_build1 rfl (by exact fc_zero_124) (by exact fc_places_124_0_1) (by exact fc_info_124) rfl) rfl rfl rfl ?_)
          refine ⟨fun _ => (by first | exact fun _ h => h | exact ent), ?_⟩
          refine t_st (i := 14) (by kernel_rfl) rfl (st_so (so_storea1 rfl rfl (by exact fc_agg_124_3) rfl rfl) rfl rfl ?_)
          refine ⟨fun h => late_no h (by kernel_rfl), ?_⟩
          refine t_nil (by kernel_rfl) ?_
          exact at_join ((b9, v45)) (And.intro rfl (trivial)) (And.intro rfl (And.intro rfl (And.intro rfl (And.intro rfl (trivial))))) (trivial) ent
      · skip
        refine tb rfl (st_xo (xo_alloc (by exact fc_zero_124)) rfl rfl rfl ?_)
        rintro _ _ ⟨b9, rfl, rfl⟩
        refine ⟨fun _ => (by first | exact fun _ h => h | exact ent), ?_⟩
        refine t_st (i := 11) (by kernel_rfl) rfl (st_call (co_fn rfl rfl) (border_Nodes m.g i okg.bytes) (by infer_instance) rfl rfl rfl ?_)
        rintro v45 _ rfl
        try dsimp only [List.cons_append, List.nil_append, GridS.l, GridS.p, MeshS.l, MeshS.lF, MeshS.p]
        refine ⟨fun _ => (by first | exact fun _ h => h | exact ent), ?_⟩
        refine t_st (i := 12) (by kernel_rfl) rfl (st_po (po_build1 rfl (by exact fc_zero_124) (by exact fc_places_124_0_1) (by exact fc_info_124) rfl) rfl rfl rfl ?_)
        refine ⟨fun _ => (by first | exact fun _ h => h | exact ent), ?_⟩
        refine t_st (i := 14) (by kernel_rfl) rfl (st_so (so_storea1 rfl rfl (by exact fc_agg_124_3) rfl rfl) rfl rfl ?_)
        refine ⟨fun h => late_no h (by kernel_rfl), ?_⟩
        refine t_nil (by kernel_rfl) ?_
        exact at_join ((b9, v45)) (And.intro rfl (trivial)) (And.intro rfl (And.intro rfl (And.intro rfl (And.intro rfl (trivial))))) (trivial) ent
    · skip
      refine tb rfl (st_xo (xo_alloc (by exact fc_zero_124)) rfl rfl rfl ?_)
      rintro _ _ ⟨b9, rfl, rfl⟩
      refine ⟨fun _ => (by first | exact fun _ h => h | exact ent), ?_⟩
      refine t_st (i := 5) (by kernel_rfl) rfl (st_call (co_fn rfl rfl) (grid_Version m.g i) (by infer_instance) rfl rfl rfl ?_)
      rintro v39 _ ⟨rfl, rfl⟩
      try dsimp only [List.cons_append, List.nil_append, GridS.l, GridS.p, MeshS.l, MeshS.lF, MeshS.p]
      refine ⟨fun _ => (by first | exact fun _ h => h | exact ent), ?_⟩
      refine t_st (i := 11) (by kernel_rfl) rfl (st_call (co_fn rfl rfl) (border_Nodes m.g i okg.bytes) (by infer_instance) rfl rfl rfl ?_)
      rintro v45 _ rfl
      try dsimp only [List.cons_append, List.nil_append, GridS.l, GridS.p, MeshS.l, MeshS.lF, MeshS.p]
      refine ⟨fun _ => (by first | exact fun _ h => h | exact ent), ?_⟩
      refine t_st (i := 12) (by kernel_rfl) rfl (st_po (po_build1 rfl (by exact fc_zero_124) (by exact fc_places_124_0_1) (by exact fc_info_124) rfl) rfl rfl rfl ?_)
      refine ⟨fun _ => (by first | exact fun _ h => h | exact ent), ?_⟩
      refine t_st (i := 14) (by kernel_rfl) rfl (st_so (so_storea1 rfl rfl (by exact fc_agg_124_3) rfl rfl) rfl rfl ?_)
      refine ⟨fun h => late_no h (by kernel_rfl), ?_⟩
      refine t_nil (by kernel_rfl) ?_
      exact at_join ((b9, v45)) (And.intro rfl (trivial)) (And.intro rfl (And.intro rfl (And.intro rfl (And.intro rfl (trivial))))) (trivial) ent
  · rintro ⟨b9, nv⟩ -
    try dsimp only [List.cons_append, List.nil_append, GridS.l, GridS.p, MeshS.l, MeshS.lF, MeshS.p]
    refine r_seq ?_
    rw [hver]
    refine wp_pure (rd_slv (E := eI) (v := nv)) (fun hsn => ?_)
    obtain ⟨sn, rfl⟩ := hsn
    refine r_reg ?_
    refine ws (st_po (po_assign rfl) rfl rfl rfl ?_)
    refine s_nil ?_
    refine at_then_wp ?_
    refine r_seq ?_
    refine r_seq ?_
    refine r_reg ?_
    refine ws (st_po (po_faddr rfl (by exact fc_field_124_1_1)) rfl rfl rfl ?_)
    refine ws (st_po (po_load rfl (by exact fc_flat_35) (by rfl)) rfl rfl rfl ?_)
    refine ws (st_po (po_len rfl (by exact fc_slice_35_3_1)) rfl rfl rfl ?_)
    refine ws (st_po (po_move rfl) rfl rfl rfl ?_)
    refine s_nil ?_
    refine at_then_wp ?_
    refine r_block ?_
    refine r_loop (S := Nat × Value × List Int) (fun ⟨k, lv, xs⟩ => [(10, lv), (50, .int .i64 k)]) [(4, _), (5, _), (6, _), (7, _), (9, _), (48, _), (49, _)] (fun ⟨k, lv, xs⟩ => Sl eI lv xs :: Blk b9 124 [.int .i64 (m.g.vs[i.toNat]'(by omega)), sn.v, .slice none 0 0] :: Sl eI sn.v (nodesN m.g.w m.g.h m.g.c i) :: Blk b7 41 [.int .i64 (tileN m.g i).w, .int .i64 (tileN m.g i).h, tc] :: Sl eB tc (tileN m.g i).c :: Blk b4 124 [.int .i64 0, .slice none 0 0, .slice none 0 0] :: m.lF F) (fun ⟨k, lv, xs⟩ => k ≤ (nodesN m.g.w m.g.h m.g.c i).length ∧ xs = ((nodesN m.g.w m.g.h m.g.c i).take k).map (localN m.g.w m.g.h)) (fun ⟨k, lv, xs⟩ => (nodesN m.g.w m.g.h m.g.c i).length - k) ((0, .slice none 0 0, [])) (And.intro rfl (And.intro rfl (And.intro rfl (And.intro rfl (And.intro rfl (And.intro rfl (And.intro rfl (trivial)))))))) (And.intro rfl (And.intro rfl (trivial))) (⟨by omega, rfl⟩) ent ?_
    rintro ⟨k, lv, xs⟩ ⟨hk, hxs⟩
    try dsimp only [List.cons_append, List.nil_append, GridS.l, GridS.p, MeshS.l, MeshS.lF, MeshS.p]
    have hxl : xs.length = k := by rw [hxs]; simp; omega
    refine r_seq ?_
    refine r_reg ?_
    refine ws (st_po (po_lt rfl rfl) rfl rfl rfl ?_)
    refine s_nil ?_
    refine at_then_wp ?_
    refine r_seq ?_
    first | refine r_cond_not rfl ?_ ?_ | refine r_cond_dec rfl ?_ ?_ | refine r_cond rfl ?_ ?_
    · intro hlt
      refine r_skip ?_
      refine at_then_wp ?_
      refine r_seq ?_
      refine r_block ?_
      refine r_seq ?_
      refine r_reg ?_
      refine ws (st_po (po_iaddr rfl rfl (by exact fc_slice_35_3_1) (by first | omega | (simp only [List.length_nil, List.length_cons, List.length_append, List.length_replicate, List.length_set, List.length_map, List.length_take, List.length_drop]; omega)) (by first | omega | (simp only [List.length_nil, List.length_cons, List.length_append, List.length_replicate, List.length_set, List.length_map, List.length_take, List.length_drop]; omega))) rfl rfl rfl ?_)
      refine ws (st_po (po_load_sl rfl (List.getElem?_eq_getElem (by first | omega | (simp only [List.length_nil, List.length_cons, List.length_append, List.length_replicate, List.length_set, List.length_map, List.length_take, List.length_drop]; omega))) (by exact fc_flat_3) (by rfl)) rfl rfl rfl ?_)
      refine ws (st_po (po_assign rfl) rfl rfl rfl ?_)
      refine s_nil ?_
      refine at_then_wp ?_
      refine r_reg ?_
      refine ws (st_po (po_move rfl) rfl rfl rfl ?_)
      refine ws (st_po (po_move rfl) rfl rfl rfl ?_)
      refine ws (st_po (po_move rfl) rfl rfl rfl ?_)
      refine ws (st_po (po_move rfl) rfl rfl rfl ?_)
      refine ws (st_call (co_fn rfl rfl) (where_Local m.g.w m.g.h _) (by infer_instance) rfl rfl rfl ?_)
      rintro v58 _ ⟨rfl, rfl⟩
      try dsimp only [List.cons_append, List.nil_append, GridS.l, GridS.p, MeshS.l, MeshS.lF, MeshS.p]
      refine ws (st_xo (xo_bslice eI [_] rfl (by exact fc_slice_35_3_1) (by exact fc_elem_3_1_8) ⟨rfl, rfl, trivial⟩ rfl (by decide)) rfl rfl rfl ?_)
      rintro v59 _ rfl
      refine ws (st_xo (xo_append rfl rfl (by exact fc_slice_35_3_1) (by exact fc_slice_35_3_1) (by exact fc_elem_3_1_8) (by first | omega | (simp only [List.length_nil, List.length_cons, List.length_append, List.length_replicate, List.length_set, List.length_map, List.length_take, List.length_drop]; omega)) (by first | omega | (simp only [List.length_nil, List.length_cons, List.length_append, List.length_replicate, List.length_set, List.length_map, List.length_take, List.length_drop]; omega))) rfl rfl rfl ?_)
      rintro v60 _ rfl
      refine ws (st_po (po_assign rfl) rfl rfl rfl ?_)
      refine s_nil ?_
      refine at_block_normal ?_
      refine at_then_wp ?_
      refine r_reg ?_
      refine ws (st_po (po_add' rfl rfl (by omega) (by omega)) rfl rfl rfl ?_)
      refine ws (st_po (po_move rfl) rfl rfl rfl ?_)
      refine s_nil ?_
      simp only [Int.toNat_natCast]
      exact at_again ((k + 1, v60, xs ++ [localN m.g.w m.g.h ((nodesN m.g.w m.g.h m.g.c i)[k]'(by omega))])) (And.intro rfl (And.intro rfl (trivial))) (And.intro rfl (And.intro rfl (And.intro rfl (And.intro rfl (And.intro rfl (And.intro rfl (And.intro rfl (trivial)))))))) (⟨by omega, by show xs ++ _ = _; rw [take_snoc _ k (by omega), List.map_append]; exact congrArg (fun z => z ++ _) hxs⟩) (by omega) ent
    · intro hlt
      refine r_exit ?_
      refine at_then_exit ?_
      refine at_then_exit ?_
      refine at_block_here ?_
      refine at_then_wp ?_
      refine r_seq ?_
      have hxe : xs = (nodesN m.g.w m.g.h m.g.c i).map (localN m.g.w m.g.h) := by rw [hxs, List.take_of_length_le (by omega)]
      rw [← hxe] at hlo
      refine r_reg ?_
      refine ws (st_po (po_loada rfl (by exact fc_agg_41_3) (by rfl)) rfl rfl rfl ?_)
      refine ws (st_po (po_move rfl) rfl rfl rfl ?_)
      refine ws (st_call (co_fn rfl rfl) (table_Make tc lv (tileN m.g i) xs hlo) (by infer_instance) rfl rfl rfl ?_)
      rintro v65 _ ⟨ov, out, rfl, rfl, hol, hcol⟩
      try dsimp only [List.cons_append, List.nil_append, GridS.l, GridS.p, MeshS.l, MeshS.lF, MeshS.p]
      have hob : out.length ≤ 65536 := by rw [hol]; exact Nat.mul_le_mul (show xs.length ≤ 256 by rw [hxe, List.length_map]; exact hnl) (show xs.length ≤ 256 by rw [hxe, List.length_map]; exact hnl)
      refine ws (st_po (po_move rfl) rfl rfl rfl ?_)
      refine ws (st_po (po_extract rfl rfl) rfl rfl rfl ?_)
      refine ws (st_po (po_extract rfl rfl) rfl rfl rfl ?_)
      refine ws (st_po (po_assign rfl) rfl rfl rfl ?_)
      refine ws (st_po (po_assign rfl) rfl rfl rfl ?_)
      refine s_nil ?_
      refine at_then_wp ?_
      refine r_seq ?_
      refine r_reg ?_
      refine ws (st_po (po_move rfl) rfl rfl rfl ?_)
      refine ws (st_po (po_len rfl (by exact fc_slice_35_3_1)) rfl rfl rfl ?_)
      refine ws (st_xo (xo_make eW (0) rfl rfl (by exact fc_slice_82_21_1) (by exact fc_elem_21_1_4) (by exact fc_zero_21) rfl (by first | omega | (simp only [List.length_nil, List.length_cons, List.length_append, List.length_replicate, List.length_set, List.length_map, List.length_take, List.length_drop]; omega)) (by first | omega | (simp only [List.length_nil, List.length_cons, List.length_append, List.length_replicate, List.length_set, List.length_map, List.length_take, List.length_drop]; omega)) (by first | omega | (simp only [List.length_nil, List.length_cons, List.length_append, List.length_replicate, List.length_set, List.length_map, List.length_take, List.length_drop]; omega))) rfl rfl rfl ?_)
      rintro v70 _ rfl
      refine ws (st_po (po_faddr rfl (by exact fc_field_124_2_2)) rfl rfl rfl ?_)
      refine ws (st_so (so_store1 rfl rfl (by exact fc_flat_82) rfl) rfl rfl ?_)
      refine s_nil ?_
      refine at_then_wp ?_
      refine r_seq ?_
      refine r_seq ?_
      refine r_reg ?_
      refine ws (st_po (po_move rfl) rfl rfl rfl ?_)
      refine ws (st_po (po_len rfl (by exact fc_slice_35_3_1)) rfl rfl rfl ?_)
      refine ws (st_po (po_move rfl) rfl rfl rfl ?_)
      refine s_nil ?_
      refine at_then_wp ?_
      refine r_block ?_
      rw [Int.toNat_natCast, fillW_0]
      refine wp_pure (rd_slv (E := eW) (v := v70)) (fun hsd => ?_)
      obtain ⟨sd, rfl⟩ := hsd
      have hcr := col_rng hlo hol hcol
      refine r_loop (S := Nat) (fun k2 => [(74, .int .i64 k2)]) [(4, _), (9, _), (72, _), (73, _)] (fun k2 => Sl eW sd.v (fillW out k2) :: Sl eI ov out :: Blk b9 124 [.int .i64 (m.g.vs[i.toNat]'(by omega)), sn.v, sd.v] :: Sl eI sn.v (nodesN m.g.w m.g.h m.g.c i) :: Blk b4 124 [.int .i64 0, .slice none 0 0, .slice none 0 0] :: m.lF F) (fun k2 => k2 ≤ out.length) (fun k2 => out.length - k2) (0) (And.intro rfl (And.intro rfl (And.intro rfl (And.intro rfl (trivial))))) (And.intro rfl (trivial)) (by omega) ent ?_
      rintro k2 hk2
      try dsimp only [List.cons_append, List.nil_append, GridS.l, GridS.p, MeshS.l, MeshS.lF, MeshS.p]
      have hfl := fillW_len hk2
      refine r_seq ?_
      refine r_reg ?_
      refine ws (st_po (po_lt rfl rfl) rfl rfl rfl ?_)
      refine s_nil ?_
      refine at_then_wp ?_
      refine r_seq ?_
      first | refine r_cond_not rfl ?_ ?_ | refine r_cond_dec rfl ?_ ?_ | refine r_cond rfl ?_ ?_
      · intro hlt2
        have hcv := hcr _ (List.getElem_mem (show (k2 : Int).toNat < out.length by omega))
        have hfs := fillW_set (show k2 < out.length by omega)
        refine r_skip ?_
        refine at_then_wp ?_
        refine r_seq ?_
        refine r_block ?_
        refine r_seq ?_
        refine r_reg ?_
        refine ws (st_po (po_move rfl) rfl rfl rfl ?_)
        refine ws (st_po (po_iaddr rfl rfl (by exact fc_slice_35_3_1) (by first | omega | (simp only [List.length_nil, List.length_cons, List.length_append, List.length_replicate, List.length_set, List.length_map, List.length_take, List.length_drop]; omega)) (by first | omega | (simp only [List.length_nil, List.length_cons, List.length_append, List.length_replicate, List.length_set, List.length_map, List.length_take, List.length_drop]; omega))) rfl rfl rfl ?_)
        refine ws (st_po (po_load_sl rfl (List.getElem?_eq_getElem (by first | omega | (simp only [List.length_nil, List.length_cons, List.length_append, List.length_replicate, List.length_set, List.length_map, List.length_take, List.length_drop]; omega))) (by exact fc_flat_3) (by rfl)) rfl rfl rfl ?_)
        refine ws (st_po (po_assign rfl) rfl rfl rfl ?_)
        refine ws (st_po (po_assign rfl) rfl rfl rfl ?_)
        refine s_nil ?_
        refine at_then_wp ?_
        refine r_seq ?_
        refine r_reg ?_
        refine ws (st_po (po_faddr rfl (by exact fc_field_124_2_2)) rfl rfl rfl ?_)
        refine ws (st_po (po_load rfl (by exact fc_flat_82) (by rfl)) rfl rfl rfl ?_)
        refine ws (st_po (po_move rfl) rfl rfl rfl ?_)
        refine ws (st_po (po_iaddr rfl rfl (by exact fc_slice_82_21_1) (by first | omega | (simp only [List.length_nil, List.length_cons, List.length_append, List.length_replicate, List.length_set, List.length_map, List.length_take, List.length_drop]; omega)) (by first | omega | (simp only [List.length_nil, List.length_cons, List.length_append, List.length_replicate, List.length_set, List.length_map, List.length_take, List.length_drop]; omega))) rfl rfl rfl ?_)
        refine ws (st_so (so_store_sl rfl rfl (List.getElem?_eq_getElem (by first | omega | (simp only [List.length_nil, List.length_cons, List.length_append, List.length_replicate, List.length_set, List.length_map, List.length_take, List.length_drop]; omega))) (by exact fc_flat_21) (by decide) (by rfl) (by rfl)) rfl rfl ?_)
        refine s_nil ?_
        refine at_then_wp ?_
        refine r_seq ?_
        refine r_reg ?_
        refine ws (st_po (po_move rfl) rfl rfl rfl ?_)
        refine ws (st_po (po_ne rfl rfl) rfl rfl rfl ?_)
        refine s_nil ?_
        refine at_then_wp ?_
        first | refine r_cond_not rfl ?_ ?_ | refine r_cond_dec rfl ?_ ?_ | refine r_cond rfl ?_ ?_
        · intro hne
          refine r_reg ?_
          refine ws (st_po (po_faddr rfl (by exact fc_field_124_2_2)) rfl rfl rfl ?_)
          refine ws (st_po (po_load rfl (by exact fc_flat_82) (by rfl)) rfl rfl rfl ?_)
          refine ws (st_po (po_move rfl) rfl rfl rfl ?_)
          refine ws (st_po (po_move rfl) rfl rfl rfl ?_)
          refine ws (st_po (po_conv_w rfl (by exact fc_int_3_i64) (by exact fc_int_21_i32) (wrap_i32 _ (by omega) (by omega))) rfl rfl rfl ?_)
          refine ws (st_po (po_iaddr rfl rfl (by exact fc_slice_82_21_1) (by first | omega | (simp only [List.length_nil, List.length_cons, List.length_append, List.length_replicate, List.length_set, List.length_map, List.length_take, List.length_drop]; omega)) (by first | omega | (simp only [List.length_nil, List.length_cons, List.length_append, List.length_replicate, List.length_set, List.length_map, List.length_take, List.length_drop]; omega))) rfl rfl rfl ?_)
          refine ws (st_so (so_store_sl rfl rfl (List.getElem?_eq_getElem (by first | omega | (simp only [List.length_nil, List.length_cons, List.length_append, List.length_replicate, List.length_set, List.length_map, List.length_take, List.length_drop]; omega))) (by exact fc_flat_21) (by decide) (by rfl) (by rfl)) rfl rfl ?_)
          refine s_nil ?_
          refine at_block_normal ?_
          refine at_then_wp ?_
          refine r_reg ?_
          refine ws (st_po (po_add' rfl rfl (by omega) (by omega)) rfl rfl rfl ?_)
          refine ws (st_po (po_move rfl) rfl rfl rfl ?_)
          refine s_nil ?_
          simp only [Int.toNat_natCast] at hne ⊢
          rw [List.set_set]
          rw [wInf, if_neg hne] at hfs
          rw [hfs]
          exact at_again (k2 + 1) (And.intro rfl (trivial)) (And.intro rfl (And.intro rfl (And.intro rfl (And.intro rfl (trivial))))) (by omega) (by omega) ent
        · intro hne
          refine r_skip ?_
          refine at_block_normal ?_
          refine at_then_wp ?_
          refine r_reg ?_
          refine ws (st_po (po_add' rfl rfl (by omega) (by omega)) rfl rfl rfl ?_)
          refine ws (st_po (po_move rfl) rfl rfl rfl ?_)
          refine s_nil ?_
          simp only [Int.toNat_natCast] at hne ⊢
          rw [wInf, if_pos (Classical.not_not.1 hne)] at hfs
          rw [hfs]
          exact at_again (k2 + 1) (And.intro rfl (trivial)) (And.intro rfl (And.intro rfl (And.intro rfl (And.intro rfl (trivial))))) (by omega) (by omega) ent
      · intro hlt2
        refine r_exit ?_
        refine at_then_exit ?_
        refine at_then_exit ?_
        refine at_block_here ?_
        refine at_then_wp ?_
        refine r_seq ?_
        refine r_reg ?_
        refine ws (st_po (po_loada rfl (by exact fc_agg_124_3) (by rfl)) rfl rfl rfl ?_)
        refine ws (st_so (so_storea1 rfl rfl (by exact fc_agg_124_3) rfl rfl) rfl rfl ?_)
        refine s_nil ?_
        refine at_then_wp ?_
        refine r_ret ?_
        rw [show k2 = out.length by omega, fillW_n]
        refine at_ret1 rfl (rv_cella rfl (by exact fc_agg_124_3) (by rfl)) ⟨_, ⟨⟨_, sn, nodesN m.g.w m.g.h m.g.c i, sd, out.map wInf⟩, rfl, rfl, part_of okg hi hlo hxe hol hcol hcr, List.getElem?_eq_getElem _⟩, ?_⟩
        try dsimp only [List.cons_append, List.nil_append, GridS.l, GridS.p, MeshS.l, MeshS.lF, MeshS.p]
        exact ent
end Hd
end
section
namespace Hd
set_option maxRecDepth 100000
open Go

/-- is a part not of the version that the grid has? -/
def dty (m : MeshS) (i : Nat) : Bool := match m.ps[i]? with
  | some x => decide (m.g.vs[i]? ≠ some x.ver)
  | none => false
def dirtyTo (m : MeshS) (k : Nat) : List Int := ((List.range k).filter (dty m)).map fun (i : Nat) => (i : Int)
theorem dirtyTo_succ (m : MeshS) (k : Nat) : dirtyTo m (k + 1) = dirtyTo m k ++ if dty m k = true then [(k : Int)] else [] := by
  unfold dirtyTo
  rw [List.range_succ, List.filter_append, List.map_append]
  congr 1
  by_cases e : dty m k = true <;> simp [e]
theorem dirtyTo_len (m : MeshS) (k : Nat) : (dirtyTo m k).length ≤ k := by
  unfold dirtyTo; rw [List.length_map]; exact Nat.le_trans (List.length_filter_le _ _) (by simp)
theorem dirty_clean {m : MeshS} (ok : MeshOk m) (h : m.clean = m.g.ep) : dirtyTo m m.ps.length = [] := by
  unfold dirtyTo
  rw [List.map_eq_nil_iff, List.filter_eq_nil_iff]
  intro i hi
  unfold dty
  cases e : m.ps[i]? with
  | none => simp
  | some x => simp [ok.clean h i x e]

theorem mesh_Dirty (m : MeshS) (ok : MeshOk m) : Spec PP 90 #[m.p] m.l (fun v M => M = m.l ++ [Sl eI v (dirtyTo m m.ps.length)]) := by
  have hvl := ok.g.vlen
  have hpl := ok.len
  have hap := acr_pos ok.g.may
  have hmul := mul_1k (a := acrN m.g.w) (b := acrN m.g.h) (by omega) (by omega) (by omega) (by omega)
  refine spec_of (Go.Proofs.Tryz.func90) rfl rfl rfl (by exact fc_enters_90) ?_
  intro g F
  try dsimp only [List.cons_append, List.nil_append, GridS.l, GridS.p, MeshS.l, MeshS.lF, MeshS.p]
  refine r_seq ?_
  refine r_reg ?_
  refine ws (st_po (po_assign rfl) rfl rfl rfl ?_)
  refine s_nil ?_
  refine at_then_wp ?_
  refine r_seq ?_
  refine r_seq ?_
  refine r_ord [] _ [(0, 1), (1, 1), (2, 1), (3, 1), (4, 1), (5, 1), (6, 0), (7, 1), (8, 1), (9, 1), (10, 0), (11, 2), (12, 1), (13, 1)] fc_mixed (by kernel_rfl) (fun _ h => h) ?_
  refine o_fr rfl (po_move rfl) rfl rfl rfl ?_
  refine o_fr rfl (po_peq rfl rfl (by exact fc_ptr_63)) rfl rfl rfl ?_
  refine o_fr rfl (po_bf (po_move rfl) (rfl)) rfl rfl rfl ?_
  refine o_fr rfl (po_move rfl) rfl rfl rfl ?_
  refine o_fr rfl (po_nil rfl) rfl rfl rfl ?_
  refine o_fr rfl (po_faddr rfl (by exact fc_field_101_2_2)) rfl rfl rfl ?_
  refine o_rd rfl (po_load rfl (by exact fc_flat_2) (by rfl)) (by first | exact fun _ h => h | exact ent) rfl rfl rfl ?_
  refine o_fr rfl (po_move rfl) rfl rfl rfl ?_
  refine o_fr rfl (po_nil rfl) rfl rfl rfl ?_
  refine o_fr rfl (po_faddr rfl (by exact fc_field_101_0_0)) rfl rfl rfl ?_
  refine o_rd rfl (po_load rfl (by exact fc_flat_27) (by rfl)) (by first | exact fun _ h => h | exact ent) rfl rfl rfl ?_
  refine o_st rfl (st_call (co_fn rfl rfl) (grid_Epoch m.g) (by infer_instance) rfl rfl rfl ?_)
  rintro v16 _ ⟨rfl, rfl⟩
  try dsimp only [List.cons_append, List.nil_append, GridS.l, GridS.p, MeshS.l, MeshS.lF, MeshS.p]
  refine ⟨fun _ => (by first | exact fun _ h => h | exact ent), ?_⟩
  refine o_fr rfl (po_eq rfl rfl) rfl rfl rfl ?_
  refine o_fr rfl (po_pick_f rfl rfl) rfl rfl rfl ?_
  refine o_nil ?_
  refine at_then_wp ?_
  first | refine r_cond_not rfl ?_ ?_ | refine r_cond_dec rfl ?_ ?_ | refine r_cond rfl ?_ ?_
  · intro hcl
    refine r_seq ?_
    refine r_reg ?_
    refine ws (st_po (po_assign rfl) rfl rfl rfl ?_)
    refine s_nil ?_
    refine at_then_wp ?_
    refine r_ret ?_
    refine at_then_ret ?_
    rw [dirty_clean ok hcl]
    refine at_ret1 rfl (rv_tmp rfl) ⟨_, rfl, ?_⟩
    try dsimp only [List.cons_append, List.nil_append, GridS.l, GridS.p, MeshS.l, MeshS.lF, MeshS.p]
    exact ent
  · intro hcl
    refine r_skip ?_
    refine at_then_wp ?_
    refine r_seq ?_
    refine r_reg ?_
    refine ws (st_po (po_assign rfl) rfl rfl rfl ?_)
    refine s_nil ?_
    refine at_then_wp ?_
    refine r_seq ?_
    refine r_seq ?_
    refine r_reg ?_
    refine ws (st_po (po_move rfl) rfl rfl rfl ?_)
    refine ws (st_po (po_nil rfl) rfl rfl rfl ?_)
    refine ws (st_po (po_faddr rfl (by exact fc_field_101_1_1)) rfl rfl rfl ?_)
    refine ws (st_po (po_load rfl (by exact fc_flat_99) (by rfl)) rfl rfl rfl ?_)
    refine ws (st_po (po_len rfl (by exact fc_slice_99_124_3)) rfl rfl rfl ?_)
    refine ws (st_po (po_move rfl) rfl rfl rfl ?_)
    refine s_nil ?_
    refine at_then_wp ?_
    refine r_block ?_
    refine r_loop (S := Nat × Value × List Int) (fun ⟨k, ov, xs⟩ => [(3, ov), (24, .int .i64 k)]) [(0, _), (23, _)] (fun ⟨k, ov, xs⟩ => Sl eI ov xs :: m.lF F) (fun ⟨k, ov, xs⟩ => k ≤ m.ps.length ∧ xs = dirtyTo m k) (fun ⟨k, ov, xs⟩ => m.ps.length - k) ((0, .slice none 0 0, [])) (And.intro rfl (And.intro rfl (trivial))) (And.intro rfl (And.intro rfl (trivial))) (⟨by omega, rfl⟩) ent ?_
    rintro ⟨k, ov, xs⟩ ⟨hk, hxs⟩
    try dsimp only [List.cons_append, List.nil_append, GridS.l, GridS.p, MeshS.l, MeshS.lF, MeshS.p]
    have hxl := dirtyTo_len m k
    rw [← hxs] at hxl
    refine r_seq ?_
    refine r_reg ?_
    refine ws (st_po (po_lt rfl rfl) rfl rfl rfl ?_)
    refine s_nil ?_
    refine at_then_wp ?_
    refine r_seq ?_
    first | refine r_cond_not rfl ?_ ?_ | refine r_cond_dec rfl ?_ ?_ | refine r_cond rfl ?_ ?_
    · intro hlt
      have hver : (if 0 ≤ (k : Int) ∧ (k : Int) < m.g.vs.length then cAt m.g.vs k else 0) = m.g.vs[k]'(by omega) := by rw [if_pos (by omega)]; exact gAt_nat (by omega)
      have hdt : dty m k = decide ((m.ps[(k : Int).toNat]'(by omega)).ver ≠ (if 0 ≤ (k : Int) ∧ (k : Int) < m.g.vs.length then cAt m.g.vs k else 0)) := by
            rw [hver, dty, List.getElem?_eq_getElem (show k < m.ps.length by omega), List.getElem?_eq_getElem (show k < m.g.vs.length by omega)]
            simp [eq_comm]
      refine r_skip ?_
      refine at_then_wp ?_
      refine r_seq ?_
      refine r_block ?_
      refine r_seq ?_
      refine r_reg ?_
      refine ws (st_po (po_move rfl) rfl rfl rfl ?_)
      refine ws (st_po (po_assign rfl) rfl rfl rfl ?_)
      refine s_nil ?_
      refine at_then_wp ?_
      refine r_seq ?_
      refine r_ord [] _ [(0, 1), (1, 1), (2, 1), (3, 0), (4, 1), (5, 0), (6, 0), (7, 0), (8, 1), (9, 1), (10, 1), (11, 0), (12, 1), (13, 2), (14, 1)] fc_mixed (by kernel_rfl) (fun _ h => h) ?_
      refine o_fr rfl (po_move rfl) rfl rfl rfl ?_
      refine o_fr rfl (po_nil rfl) rfl rfl rfl ?_
      refine o_fr rfl (po_faddr rfl (by exact fc_field_101_1_1)) rfl rfl rfl ?_
      refine o_rd rfl (po_load rfl (by exact fc_flat_99) (by rfl)) (by first | exact fun _ h => h | exact ent) rfl rfl rfl ?_
      refine o_fr rfl (po_move rfl) rfl rfl rfl ?_
      refine o_rd rfl (po_iaddr rfl rfl (by exact fc_slice_99_124_3) (by first | omega | (simp only [List.length_nil, List.length_cons, List.length_append, List.length_replicate, List.length_set, List.length_map, List.length_take, List.length_drop]; omega)) (by first | omega | (simp only [List.length_nil, List.length_cons, List.length_append, List.length_replicate, List.length_set, List.length_map, List.length_take, List.length_drop]; omega))) (by first | exact fun _ h => h | exact ent) rfl rfl rfl ?_
      refine o_rd rfl (po_faddr_sl rfl (by omega) (by exact fc_field_124_0_0)) (by first | exact fun _ h => h | exact ent) rfl rfl rfl ?_
      refine o_rd rfl (po_load_sl rfl (List.getElem?_eq_getElem (by first | omega | (simp only [List.length_nil, List.length_cons, List.length_append, List.length_replicate, List.length_set, List.length_map, List.length_take, List.length_drop]; omega))) (by exact fc_flat_2) (by rfl)) (by first | exact fun _ h => h | exact ent) rfl rfl rfl ?_
      refine o_fr rfl (po_move rfl) rfl rfl rfl ?_
      refine o_fr rfl (po_nil rfl) rfl rfl rfl ?_
      refine o_fr rfl (po_faddr rfl (by exact fc_field_101_0_0)) rfl rfl rfl ?_
      refine o_rd rfl (po_load rfl (by exact fc_flat_27) (by rfl)) (by first | exact fun _ h => h | exact ent) rfl rfl rfl ?_
      refine o_fr rfl (po_move rfl) rfl rfl rfl ?_
      refine o_st rfl (st_call (co_fn rfl rfl) (grid_Version m.g k) (by infer_instance) rfl rfl rfl ?_)
      rintro v40 _ ⟨rfl, rfl⟩
      try dsimp only [List.cons_append, List.nil_append, GridS.l, GridS.p, MeshS.l, MeshS.lF, MeshS.p]
      refine ⟨fun _ => (by first | exact fun _ h => h | exact ent), ?_⟩
      refine o_fr rfl (po_ne rfl rfl) rfl rfl rfl ?_
      refine o_nil ?_
      refine at_then_wp ?_
      first | refine r_cond_not rfl ?_ ?_ | refine r_cond_dec rfl ?_ ?_ | refine r_cond rfl ?_ ?_
      · intro hne
        refine r_reg ?_
        refine ws (st_po (po_move rfl) rfl rfl rfl ?_)
        refine ws (st_po (po_move rfl) rfl rfl rfl ?_)
        refine ws (st_xo (xo_bslice eI [_] rfl (by exact fc_slice_35_3_1) (by exact fc_elem_3_1_8) ⟨rfl, rfl, trivial⟩ rfl (by decide)) rfl rfl rfl ?_)
        rintro v44 _ rfl
        refine ws (st_xo (xo_append rfl rfl (by exact fc_slice_35_3_1) (by exact fc_slice_35_3_1) (by exact fc_elem_3_1_8) (by first | omega | (simp only [List.length_nil, List.length_cons, List.length_append, List.length_replicate, List.length_set, List.length_map, List.length_take, List.length_drop]; omega)) (by first | omega | (simp only [List.length_nil, List.length_cons, List.length_append, List.length_replicate, List.length_set, List.length_map, List.length_take, List.length_drop]; omega))) rfl rfl rfl ?_)
        rintro v45 _ rfl
        refine ws (st_po (po_assign rfl) rfl rfl rfl ?_)
        refine s_nil ?_
        refine at_block_normal ?_
        refine at_then_wp ?_
        refine r_reg ?_
        refine ws (st_po (po_add' rfl rfl (by omega) (by omega)) rfl rfl rfl ?_)
        refine ws (st_po (po_move rfl) rfl rfl rfl ?_)
        refine s_nil ?_
        exact at_again ((k + 1, v45, xs ++ [(k : Int)])) (And.intro rfl (And.intro rfl (trivial))) (And.intro rfl (And.intro rfl (trivial))) (⟨by omega, by rw [dirtyTo_succ, if_pos (by rw [hdt]; exact decide_eq_true hne)]; exact congrArg (fun z => z ++ _) hxs⟩) (by omega) ent
      · intro hne
        refine r_skip ?_
        refine at_block_normal ?_
        refine at_then_wp ?_
        refine r_reg ?_
        refine ws (st_po (po_add' rfl rfl (by omega) (by omega)) rfl rfl rfl ?_)
        refine ws (st_po (po_move rfl) rfl rfl rfl ?_)
        refine s_nil ?_
        exact at_again ((k + 1, ov, xs)) (And.intro rfl (And.intro rfl (trivial))) (And.intro rfl (And.intro rfl (trivial))) (⟨by omega, by rw [dirtyTo_succ, if_neg (by rw [hdt]; simpa using hne), List.append_nil]; exact hxs⟩) (by omega) ent
    · intro hlt
      refine r_exit ?_
      refine at_then_exit ?_
      refine at_then_exit ?_
      refine at_block_here ?_
      refine at_then_wp ?_
      refine r_seq ?_
      refine r_reg ?_
      refine ws (st_po (po_move rfl) rfl rfl rfl ?_)
      refine ws (st_po (po_assign rfl) rfl rfl rfl ?_)
      refine s_nil ?_
      refine at_then_wp ?_
      refine r_ret ?_
      rw [show k = m.ps.length by omega] at hxs
      subst hxs
      refine at_ret1 rfl (rv_tmp rfl) ⟨_, rfl, ?_⟩
      try dsimp only [List.cons_append, List.nil_append, GridS.l, GridS.p, MeshS.l, MeshS.lF, MeshS.p]
      exact ent

theorem dirty_mem {m : MeshS} {i : Int} (h : i ∈ dirtyTo m m.ps.length) : 0 ≤ i ∧ i < m.ps.length := by
  obtain ⟨j, hj, rfl⟩ := List.mem_map.1 h
  have := List.mem_range.1 (List.mem_filter.1 hj).1
  omega
theorem dirty_not {m : MeshS} {i : Nat} {x : PartS} (hx : m.ps[i]? = some x) (h : (i : Int) ∉ dirtyTo m m.ps.length) : m.g.vs[i]? = some x.ver := by
  apply Classical.byContradiction
  intro hn
  apply h
  refine List.mem_map.2 ⟨i, List.mem_filter.2 ⟨List.mem_range.2 (lt_of_get hx), ?_⟩, rfl⟩
  unfold dty
  rw [hx]
  exact decide_eq_true hn
theorem mesh_Rebuild (m : MeshS) (ok : MeshOk m) : Spec PP 62 #[m.p] m.l
    (fun v M => ∃ m' : MeshS, v = .int .i64 (dirtyTo m m.ps.length).length ∧ M = m'.l ∧ MeshOk m' ∧ m'.clean = m.g.ep ∧ m'.g = m.g ∧ m'.b = m.b ∧ m'.pv = m.pv ∧ m'.count = min (m.count + (dirtyTo m m.ps.length).length) 18446744073709551615) := by
  have hvl := ok.g.vlen
  have hpl := ok.len
  have hap := acr_pos ok.g.may
  have hmul := mul_1k (a := acrN m.g.w) (b := acrN m.g.h) (by omega) (by omega) (by omega) (by omega)
  have hdl := dirtyTo_len m m.ps.length
  have hct := ok.cnt
  refine spec_of (Go.Proofs.Tryz.func62) rfl rfl rfl (by exact fc_enters_62) ?_
  intro g F
  try dsimp only [List.cons_append, List.nil_append, GridS.l, GridS.p, MeshS.l, MeshS.lF, MeshS.p]
  refine r_seq ?_
  refine r_reg ?_
  refine ws (st_po (po_assign rfl) rfl rfl rfl ?_)
  refine s_nil ?_
  refine at_then_wp ?_
  refine r_seq ?_
  refine r_seq ?_
  refine r_reg ?_
  refine ws (st_po (po_move rfl) rfl rfl rfl ?_)
  refine ws (st_po (po_peq rfl rfl (by exact fc_ptr_63)) rfl rfl rfl ?_)
  refine s_nil ?_
  refine at_then_wp ?_
  refine r_cond_f rfl (rfl) ?_
  refine r_skip ?_
  refine at_then_wp ?_
  refine r_seq ?_
  refine r_reg ?_
  refine ws (st_po (po_move rfl) rfl rfl rfl ?_)
  refine ws (st_call (co_fn rfl rfl) (mesh_Dirty m ok) (by infer_instance) rfl rfl rfl ?_)
  rintro v9 _ rfl
  try dsimp only [List.cons_append, List.nil_append, GridS.l, GridS.p, MeshS.l, MeshS.lF, MeshS.p]
  refine ws (st_po (po_assign rfl) rfl rfl rfl ?_)
  refine s_nil ?_
  refine at_then_wp ?_
  refine r_seq ?_
  refine r_seq ?_
  refine r_reg ?_
  refine ws (st_po (po_move rfl) rfl rfl rfl ?_)
  refine ws (st_po (po_len rfl (by exact fc_slice_35_3_1)) rfl rfl rfl ?_)
  refine ws (st_po (po_move rfl) rfl rfl rfl ?_)
  refine s_nil ?_
  refine at_then_wp ?_
  refine r_block ?_
  refine r_loop (S := Nat × List PartS × Int) (fun ⟨k, ps, cnt⟩ => [(12, .int .i64 k)]) [(0, _), (3, _), (10, _), (11, _)] (fun ⟨k, ps, cnt⟩ => Sl eI v9 (dirtyTo m m.ps.length) :: ({ m with ps := ps, count := cnt } : MeshS).lF F) (fun ⟨k, ps, cnt⟩ => k ≤ (dirtyTo m m.ps.length).length ∧ ps.length = m.ps.length ∧ cnt = min (m.count + k) 18446744073709551615 ∧ (∀ (i : Nat) x, ps[i]? = some x → m.g.vs[i]? = some x.ver → PartOk m.g i x) ∧ (∀ (i : Nat) x, ps[i]? = some x → (i : Int) ∉ (dirtyTo m m.ps.length).drop k → m.g.vs[i]? = some x.ver)) (fun ⟨k, ps, cnt⟩ => (dirtyTo m m.ps.length).length - k) ((0, m.ps, m.count)) (And.intro rfl (And.intro rfl (And.intro rfl (And.intro rfl (trivial))))) (And.intro rfl (trivial)) (⟨by omega, rfl, by omega, ok.part, fun i x h1 h2 => dirty_not h1 h2⟩) ent ?_
  rintro ⟨k, ps, cnt⟩ ⟨hk, hpl2, hcnt, hpt, hfr⟩
  try dsimp only [List.cons_append, List.nil_append, GridS.l, GridS.p, MeshS.l, MeshS.lF, MeshS.p]
  refine r_seq ?_
  refine r_reg ?_
  refine ws (st_po (po_lt rfl rfl) rfl rfl rfl ?_)
  refine s_nil ?_
  refine at_then_wp ?_
  refine r_seq ?_
  first | refine r_cond_not rfl ?_ ?_ | refine r_cond_dec rfl ?_ ?_ | refine r_cond rfl ?_ ?_
  · intro hlt
    have hkl : k < (dirtyTo m m.ps.length).length := by omega
    have hdm := dirty_mem (List.getElem_mem hkl)
    have hdm' := dirty_mem (List.getElem_mem (show (k : Int).toNat < (dirtyTo m m.ps.length).length by omega))
    refine r_skip ?_
    refine at_then_wp ?_
    refine r_seq ?_
    refine r_block ?_
    refine r_seq ?_
    refine r_reg ?_
    refine ws (st_po (po_iaddr rfl rfl (by exact fc_slice_35_3_1) (by first | omega | (simp only [List.length_nil, List.length_cons, List.length_append, List.length_replicate, List.length_set, List.length_map, List.length_take, List.length_drop]; omega)) (by first | omega | (simp only [List.length_nil, List.length_cons, List.length_append, List.length_replicate, List.length_set, List.length_map, List.length_take, List.length_drop]; omega))) rfl rfl rfl ?_)
    refine ws (st_po (po_load_sl rfl (List.getElem?_eq_getElem (by first | omega | (simp only [List.length_nil, List.length_cons, List.length_append, List.length_replicate, List.length_set, List.length_map, List.length_take, List.length_drop]; omega))) (by exact fc_flat_3) (by rfl)) rfl rfl rfl ?_)
    refine ws (st_po (po_assign rfl) rfl rfl rfl ?_)
    refine s_nil ?_
    refine at_then_wp ?_
    refine r_seq ?_
    refine r_ord [9] _ [(0, 1), (1, 1), (2, 1), (3, 0), (4, 1), (5, 1), (6, 1), (7, 2), (8, 0), (9, 2)] fc_mixed (by kernel_rfl) (fun _ h => h) ?_
    refine o_fr rfl (po_move rfl) rfl rfl rfl ?_
    refine o_fr rfl (po_nil rfl) rfl rfl rfl ?_
    refine o_fr rfl (po_faddr rfl (by exact fc_field_101_1_1)) rfl rfl rfl ?_
    refine o_rd rfl (po_load rfl (by exact fc_flat_99) (by rfl)) (by first | exact fun _ h => h | exact ent) rfl rfl rfl ?_
    refine o_fr rfl (po_move rfl) rfl rfl rfl ?_
    refine o_fr rfl (po_move rfl) rfl rfl rfl ?_
    refine o_fr rfl (po_move rfl) rfl rfl rfl ?_
    refine o_st rfl (st_call (co_fn rfl rfl) (mesh_make { m with ps := ps, count := cnt } ok.g ((dirtyTo m m.ps.length)[k]'(by omega)) ⟨ok.g.may, hdm.1, by show (dirtyTo m m.ps.length)[k] < acrN m.g.w * acrN m.g.h; omega⟩) (by infer_instance) rfl rfl rfl ?_)
    rintro v23 _ ⟨x, rfl, rfl, hxp, hxv⟩
    try dsimp only [List.cons_append, List.nil_append, GridS.l, GridS.p, MeshS.l, MeshS.lF, MeshS.p]
    refine ⟨fun _ => (by first | exact fun _ h => h | exact ent), ?_⟩
    refine o_rd rfl (po_iaddr rfl rfl (by exact fc_slice_99_124_3) (by first | omega | (simp only [List.length_nil, List.length_cons, List.length_append, List.length_replicate, List.length_set, List.length_map, List.length_take, List.length_drop]; omega)) (by first | omega | (simp only [List.length_nil, List.length_cons, List.length_append, List.length_replicate, List.length_set, List.length_map, List.length_take, List.length_drop]; omega))) (by first | exact fun _ h => h | exact ent) rfl rfl rfl ?_
    refine o_st rfl (st_so (st_eP rfl rfl (by first | omega | (simp only [List.length_nil, List.length_cons, List.length_append, List.length_replicate, List.length_set, List.length_map, List.length_take, List.length_drop]; omega)) (by exact fc_agg_124_3)) rfl rfl ?_)
    refine ⟨fun h => late_no h (by kernel_rfl), ?_⟩
    refine o_nil ?_
    refine at_then_wp ?_
    refine r_reg ?_
    refine ws (st_po (po_move rfl) rfl rfl rfl ?_)
    refine ws (st_po (po_move rfl) rfl rfl rfl ?_)
    refine ws (st_po (po_nil rfl) rfl rfl rfl ?_)
    refine ws (st_po (po_faddr rfl (by exact fc_field_101_3_3)) rfl rfl rfl ?_)
    refine ws (st_po (po_load rfl (by exact fc_flat_96) (by rfl)) rfl rfl rfl ?_)
    refine ws (st_call (co_fn rfl rfl) (tally_Add cnt (by omega) (by omega)) (by infer_instance) rfl rfl rfl ?_)
    rintro v30 _ ⟨⟨r, rfl, hr⟩, rfl⟩
    try dsimp only [List.cons_append, List.nil_append, GridS.l, GridS.p, MeshS.l, MeshS.lF, MeshS.p]
    refine ws (st_po (po_nil rfl) rfl rfl rfl ?_)
    refine ws (st_po (po_faddr rfl (by exact fc_field_101_3_3)) rfl rfl rfl ?_)
    refine ws (st_so (so_store1 rfl rfl (by exact fc_flat_96) rfl) rfl rfl ?_)
    refine s_nil ?_
    refine at_block_normal ?_
    refine at_then_wp ?_
    refine r_reg ?_
    refine ws (st_po (po_add' rfl rfl (by omega) (by omega)) rfl rfl rfl ?_)
    refine ws (st_po (po_move rfl) rfl rfl rfl ?_)
    refine s_nil ?_
    simp only [Int.toNat_natCast]
    refine at_ent (ent_take slP ps (List.getElem?_eq_getElem (show ((dirtyTo m m.ps.length)[k]'(by omega)).toNat < ps.length by omega))) ?_
    refine at_ent (ent_put slP ps x (show ((dirtyTo m m.ps.length)[k]'(by omega)).toNat < ps.length by omega)) ?_
    exact at_again ((k + 1, ps.set ((dirtyTo m m.ps.length)[k]'(by omega)).toNat x, r)) (And.intro rfl (trivial)) (And.intro rfl (And.intro rfl (And.intro rfl (And.intro rfl (trivial))))) (⟨by omega, by simpa using hpl2, by show r = min (m.count + ((k + 1 : Nat) : Int)) 18446744073709551615; omega, fun i y h1 h2 => by
      rw [List.getElem?_set] at h1
      split at h1
      · rename_i e
        split at h1
        · cases h1; rw [← e]; rw [Int.toNat_of_nonneg hdm.1]; exact hxp
        · cases h1
      · exact hpt i y h1 h2, fun i y h1 h2 => by
      rw [List.getElem?_set] at h1
      split at h1
      · rename_i e
        split at h1
        · cases h1; rw [← e]; exact hxv
        · cases h1
      · rename_i e
        refine hfr i y h1 (fun h3 => ?_)
        rw [List.drop_eq_getElem_cons hkl] at h3
        rcases List.mem_cons.1 h3 with h3 | h3
        · omega
        · exact h2 h3⟩) (by omega) ent
  · intro hlt
    refine r_exit ?_
    refine at_then_exit ?_
    refine at_then_exit ?_
    refine at_block_here ?_
    refine at_then_wp ?_
    refine r_seq ?_
    refine r_reg ?_
    refine ws (st_po (po_move rfl) rfl rfl rfl ?_)
    refine ws (st_po (po_move rfl) rfl rfl rfl ?_)
    refine ws (st_po (po_nil rfl) rfl rfl rfl ?_)
    refine ws (st_po (po_faddr rfl (by exact fc_field_101_0_0)) rfl rfl rfl ?_)
    refine ws (st_po (po_load rfl (by exact fc_flat_27) (by rfl)) rfl rfl rfl ?_)
    refine ws (st_call (co_fn rfl rfl) (grid_Epoch m.g) (by infer_instance) rfl rfl rfl ?_)
    rintro v39 _ ⟨rfl, rfl⟩
    try dsimp only [List.cons_append, List.nil_append, GridS.l, GridS.p, MeshS.l, MeshS.lF, MeshS.p]
    refine ws (st_po (po_nil rfl) rfl rfl rfl ?_)
    refine ws (st_po (po_faddr rfl (by exact fc_field_101_2_2)) rfl rfl rfl ?_)
    refine ws (st_so (so_store1 rfl rfl (by exact fc_flat_2) rfl) rfl rfl ?_)
    refine s_nil ?_
    refine at_then_wp ?_
    refine r_seq ?_
    refine r_reg ?_
    refine ws (st_po (po_move rfl) rfl rfl rfl ?_)
    refine ws (st_po (po_len rfl (by exact fc_slice_35_3_1)) rfl rfl rfl ?_)
    refine ws (st_po (po_assign rfl) rfl rfl rfl ?_)
    refine s_nil ?_
    refine at_then_wp ?_
    refine r_ret ?_
    refine at_ret1 rfl (rv_tmp rfl) ⟨_, ⟨{ m with ps := ps, clean := m.g.ep, count := cnt }, rfl, rfl, ⟨ok.g, by show (ps.length : Int) = _; rw [hpl2]; exact hpl, ok.vs, by show 0 ≤ cnt ∧ cnt ≤ _; omega, Int.le_refl _, hpt, fun _ i x h => hfr i x h (by rw [List.drop_eq_nil_of_le (by omega)]; simp)⟩, rfl, rfl, rfl, rfl, by show cnt = _; rw [hcnt, show k = (dirtyTo m m.ps.length).length by omega]⟩, ?_⟩
    try dsimp only [List.cons_append, List.nil_append, GridS.l, GridS.p, MeshS.l, MeshS.lF, MeshS.p]
    exact ent
end Hd
end
section
namespace Hd
set_option maxRecDepth 100000
open Go

/-- all parts are as the grid is -/
structure MeshFr (m : MeshS) : Prop where
  g : GridOk m.g
  len : (m.ps.length : Int) = acrN m.g.w * acrN m.g.h
  part : ∀ (i : Nat) x, m.ps[i]? = some x → PartOk m.g i x
theorem MeshOk.fresh {m : MeshS} (ok : MeshOk m) (h : m.clean = m.g.ep) : MeshFr m := ⟨ok.g, ok.len, fun i x hx => ok.part i x hx (ok.clean h i x hx)⟩
theorem MeshFr.iss {m : MeshS} (k : MeshFr m) {i : Int} : IsS m.g.w m.g.h i ↔ 0 ≤ i ∧ i < m.ps.length := by rw [k.len]; exact ⟨fun h => h.2, fun h => ⟨k.g.may, h⟩⟩

theorem mesh_Nodes (m : MeshS) (ok : MeshFr m) (i : Int) (hi : IsS m.g.w m.g.h i) : Spec PP 95 #[m.p, .int .i64 i] m.l (fun v M => M = m.l ++ [Sl eI v (nodesN m.g.w m.g.h m.g.c i)]) := by
  have hil := ok.iss.1 hi
  have hx : m.ps[i.toNat]? = some (m.ps[i.toNat]'(by omega)) := List.getElem?_eq_getElem (by omega)
  have hp := ok.part i.toNat _ hx
  have hnl := nodes_len m.g.w m.g.h m.g.c i
  have hpn : (m.ps[i.toNat]'(by omega)).nodes = nodesN m.g.w m.g.h m.g.c i := by rw [hp.nodes, Int.toNat_of_nonneg hil.1]
  refine spec_of (Go.Proofs.Tryz.func95) rfl rfl rfl (by exact fc_enters_95) ?_
  intro g F
  try dsimp only [List.cons_append, List.nil_append, GridS.l, GridS.p, MeshS.l, MeshS.lF, MeshS.p]
  refine r_seq ?_
  refine r_reg ?_
  refine ws (st_po (po_assign rfl) rfl rfl rfl ?_)
  refine s_nil ?_
  refine at_then_wp ?_
  refine r_seq ?_
  refine r_seq ?_
  refine r_reg ?_
  refine ws (st_po (po_move rfl) rfl rfl rfl ?_)
  refine ws (st_po (po_peq rfl rfl (by exact fc_ptr_63)) rfl rfl rfl ?_)
  refine ws (st_po (po_bf (po_move rfl) (rfl)) rfl rfl rfl ?_)
  refine ws (st_po (po_move rfl) rfl rfl rfl ?_)
  refine ws (st_po (po_lt rfl rfl) rfl rfl rfl ?_)
  refine ws (st_po (po_pick_f rfl rfl) rfl rfl rfl ?_)
  refine ws (st_po (po_bf (po_move rfl) (decide_eq_false (by omega))) rfl rfl rfl ?_)
  refine ws (st_po (po_move rfl) rfl rfl rfl ?_)
  refine ws (st_po (po_move rfl) rfl rfl rfl ?_)
  refine ws (st_po (po_nil rfl) rfl rfl rfl ?_)
  refine ws (st_po (po_faddr rfl (by exact fc_field_101_1_1)) rfl rfl rfl ?_)
  refine ws (st_po (po_load rfl (by exact fc_flat_99) (by rfl)) rfl rfl rfl ?_)
  refine ws (st_po (po_len rfl (by exact fc_slice_99_124_3)) rfl rfl rfl ?_)
  refine ws (st_po (po_ge rfl rfl) rfl rfl rfl ?_)
  refine ws (st_po (po_pick_f rfl rfl) rfl rfl rfl ?_)
  refine s_nil ?_
  refine at_then_wp ?_
  first | refine r_dec_f rfl (by omega) ?_ | refine r_nd_f rfl (by omega) ?_ | refine r_cond_f rfl (by omega) ?_
  refine r_skip ?_
  refine at_then_wp ?_
  refine r_seq ?_
  refine wp_ent (ent_take slP m.ps hx) ?_
  refine r_reg ?_
  refine ws (st_po (po_move rfl) rfl rfl rfl ?_)
  refine ws (st_po (po_nil rfl) rfl rfl rfl ?_)
  refine ws (st_po (po_faddr rfl (by exact fc_field_101_1_1)) rfl rfl rfl ?_)
  refine ws (st_po (po_load rfl (by exact fc_flat_99) (by rfl)) rfl rfl rfl ?_)
  refine ws (st_po (po_move rfl) rfl rfl rfl ?_)
  refine ws (st_po (po_iaddr rfl rfl (by exact fc_slice_99_124_3) (by first | omega | (simp only [List.length_nil, List.length_cons, List.length_append, List.length_replicate, List.length_set, List.length_map, List.length_take, List.length_drop]; omega)) (by first | omega | (simp only [List.length_nil, List.length_cons, List.length_append, List.length_replicate, List.length_set, List.length_map, List.length_take, List.length_drop]; omega))) rfl rfl rfl ?_)
  refine ws (st_po (po_faddr_sl rfl (by omega) (by exact fc_field_124_1_1)) rfl rfl rfl ?_)
  refine ws (st_po (po_load_sl rfl (List.getElem?_eq_getElem (by first | omega | (simp only [List.length_nil, List.length_cons, List.length_append, List.length_replicate, List.length_set, List.length_map, List.length_take, List.length_drop]; omega))) (by exact fc_flat_35) (by rfl)) rfl rfl rfl ?_)
  refine ws (st_call (co_fn rfl rfl) (clone_I (m.ps[i.toNat]'(by omega)).n.v (m.ps[i.toNat]'(by omega)).nodes (by rw [hpn]; omega)) (by infer_instance) rfl rfl rfl ?_)
  rintro v28 _ rfl
  try dsimp only [List.cons_append, List.nil_append, GridS.l, GridS.p, MeshS.l, MeshS.lF, MeshS.p]
  refine ws (st_po (po_assign rfl) rfl rfl rfl ?_)
  refine s_nil ?_
  refine at_then_wp ?_
  refine r_ret ?_
  refine at_ent (ent_put slP m.ps (i := i.toNat) (m.ps[i.toNat]'(by omega)) (by omega)) ?_
  rw [set_same hx, hpn]
  refine at_ret1 rfl (rv_tmp rfl) ⟨_, rfl, ?_⟩
  try dsimp only [List.cons_append, List.nil_append, GridS.l, GridS.p, MeshS.l, MeshS.lF, MeshS.p]
  exact ent

theorem mesh_find (m : MeshS) (ok : MeshFr m) (c : Int) (hc : IsC m.g.w m.g.h c) : Spec PP 122 #[m.p, .int .i64 c] m.l
    (fun v M => (∃ r : Nat, v = .tuple #[ead m.pv (sectorN m.g.w m.g.h c).toNat 3 0, .int .i64 r, .bool (decide (c ∈ nodesN m.g.w m.g.h m.g.c (sectorN m.g.w m.g.h c)))] ∧
      (c ∈ nodesN m.g.w m.g.h m.g.c (sectorN m.g.w m.g.h c) → (nodesN m.g.w m.g.h m.g.c (sectorN m.g.w m.g.h c))[r]? = some c)) ∧ M = m.l) := by
  have hs := (sector_lt hc).1
  generalize hse : sectorN m.g.w m.g.h c = i at *
  have hil := ok.iss.1 hs
  have hx : m.ps[i.toNat]? = some (m.ps[i.toNat]'(by omega)) := List.getElem?_eq_getElem (by omega)
  have hp := ok.part i.toNat _ hx
  have hnl := nodes_len m.g.w m.g.h m.g.c i
  have hpn : (m.ps[i.toNat]'(by omega)).nodes = nodesN m.g.w m.g.h m.g.c i := by rw [hp.nodes, Int.toNat_of_nonneg hil.1]
  refine spec_of (Go.Proofs.Tryz.func122) rfl rfl rfl (by exact fc_enters_122) ?_
  intro g F
  try dsimp only [List.cons_append, List.nil_append, GridS.l, GridS.p, MeshS.l, MeshS.lF, MeshS.p]
  refine r_seq ?_
  refine r_reg ?_
  refine ws (st_po (po_assign rfl) rfl rfl rfl ?_)
  refine ws (st_po (po_assign rfl) rfl rfl rfl ?_)
  refine ws (st_po (po_assign rfl) rfl rfl rfl ?_)
  refine s_nil ?_
  refine at_then_wp ?_
  refine r_seq ?_
  refine r_seq ?_
  refine r_reg ?_
  refine ws (st_po (po_move rfl) rfl rfl rfl ?_)
  refine ws (st_po (po_peq rfl rfl (by exact fc_ptr_63)) rfl rfl rfl ?_)
  refine s_nil ?_
  refine at_then_wp ?_
  refine r_cond_f rfl (rfl) ?_
  refine r_skip ?_
  refine at_then_wp ?_
  refine r_seq ?_
  refine r_reg ?_
  refine ws (st_po (po_move rfl) rfl rfl rfl ?_)
  refine ws (st_po (po_nil rfl) rfl rfl rfl ?_)
  refine ws (st_po (po_faddr rfl (by exact fc_field_101_0_0)) rfl rfl rfl ?_)
  refine ws (st_po (po_load rfl (by exact fc_flat_27) (by rfl)) rfl rfl rfl ?_)
  refine ws (st_call (co_fn rfl rfl) (grid_Size m.g) (by infer_instance) rfl rfl rfl ?_)
  rintro v20 _ ⟨rfl, rfl⟩
  try dsimp only [List.cons_append, List.nil_append, GridS.l, GridS.p, MeshS.l, MeshS.lF, MeshS.p]
  refine ws (st_po (po_move rfl) rfl rfl rfl ?_)
  refine ws (st_po (po_extract rfl rfl) rfl rfl rfl ?_)
  refine ws (st_po (po_extract rfl rfl) rfl rfl rfl ?_)
  refine ws (st_po (po_assign rfl) rfl rfl rfl ?_)
  refine ws (st_po (po_assign rfl) rfl rfl rfl ?_)
  refine s_nil ?_
  refine at_then_wp ?_
  refine r_seq ?_
  refine r_reg ?_
  refine ws (st_po (po_move rfl) rfl rfl rfl ?_)
  refine ws (st_po (po_move rfl) rfl rfl rfl ?_)
  refine ws (st_po (po_move rfl) rfl rfl rfl ?_)
  refine ws (st_call (co_fn rfl rfl) (where_Sector m.g.w m.g.h c) (by infer_instance) rfl rfl rfl ?_)
  rintro v26 _ ⟨rfl, rfl⟩
  try dsimp only [List.cons_append, List.nil_append, GridS.l, GridS.p, MeshS.l, MeshS.lF, MeshS.p]
  rw [hse]
  refine ws (st_po (po_assign rfl) rfl rfl rfl ?_)
  refine s_nil ?_
  refine at_then_wp ?_
  refine r_seq ?_
  refine r_seq ?_
  refine r_reg ?_
  refine ws (st_po (po_move rfl) rfl rfl rfl ?_)
  refine ws (st_po (po_lt rfl rfl) rfl rfl rfl ?_)
  refine s_nil ?_
  refine at_then_wp ?_
  first | refine r_dec_f rfl (by omega) ?_ | refine r_nd_f rfl (by omega) ?_ | refine r_cond_f rfl (by omega) ?_
  refine r_skip ?_
  refine at_then_wp ?_
  refine r_seq ?_
  refine r_reg ?_
  refine ws (st_po (po_move rfl) rfl rfl rfl ?_)
  refine ws (st_po (po_nil rfl) rfl rfl rfl ?_)
  refine ws (st_po (po_faddr rfl (by exact fc_field_101_1_1)) rfl rfl rfl ?_)
  refine ws (st_po (po_load rfl (by exact fc_flat_99) (by rfl)) rfl rfl rfl ?_)
  refine ws (st_po (po_move rfl) rfl rfl rfl ?_)
  refine ws (st_po (po_iaddr rfl rfl (by exact fc_slice_99_124_3) (by first | omega | (simp only [List.length_nil, List.length_cons, List.length_append, List.length_replicate, List.length_set, List.length_map, List.length_take, List.length_drop]; omega)) (by first | omega | (simp only [List.length_nil, List.length_cons, List.length_append, List.length_replicate, List.length_set, List.length_map, List.length_take, List.length_drop]; omega))) rfl rfl rfl ?_)
  refine ws (st_po (po_assign rfl) rfl rfl rfl ?_)
  refine s_nil ?_
  refine at_then_wp ?_
  refine r_seq ?_
  refine wp_ent (ent_take slP m.ps hx) ?_
  refine r_reg ?_
  refine ws (st_po (po_move rfl) rfl rfl rfl ?_)
  refine ws (st_po (po_move rfl) rfl rfl rfl ?_)
  refine ws (st_call (co_fn rfl rfl) (part_place m.pv m.ps i.toNat c (by omega) (by rw [hpn]; omega) (by rw [hpn]; exact nodes_rising hs)) (by infer_instance) rfl rfl rfl ?_)
  rintro v38 _ ⟨⟨r, rfl, hr⟩, rfl⟩
  try dsimp only [List.cons_append, List.nil_append, GridS.l, GridS.p, MeshS.l, MeshS.lF, MeshS.p]
  refine ws (st_po (po_move rfl) rfl rfl rfl ?_)
  refine ws (st_po (po_extract rfl rfl) rfl rfl rfl ?_)
  refine ws (st_po (po_extract rfl rfl) rfl rfl rfl ?_)
  refine ws (st_po (po_assign rfl) rfl rfl rfl ?_)
  refine ws (st_po (po_assign rfl) rfl rfl rfl ?_)
  refine s_nil ?_
  refine at_then_wp ?_
  refine r_seq ?_
  refine wp_ent (ent_put slP m.ps (i := i.toNat) (m.ps[i.toNat]'(by omega)) (by omega)) ?_
  rw [set_same hx]
  rw [hpn] at hr
  rw [hpn]
  refine r_reg ?_
  refine ws (st_po (po_move rfl) rfl rfl rfl ?_)
  refine ws (st_po (po_move rfl) rfl rfl rfl ?_)
  refine ws (st_po (po_move rfl) rfl rfl rfl ?_)
  refine ws (st_po (po_assign rfl) rfl rfl rfl ?_)
  refine ws (st_po (po_assign rfl) rfl rfl rfl ?_)
  refine ws (st_po (po_assign rfl) rfl rfl rfl ?_)
  refine s_nil ?_
  refine at_then_wp ?_
  refine r_ret ?_
  refine at_ret3 rfl (rv_tmp rfl) (rv_tmp rfl) (rv_tmp rfl) ⟨_, ⟨⟨r, rfl, hr⟩, rfl⟩, ?_⟩
  try dsimp only [List.cons_append, List.nil_append, GridS.l, GridS.p, MeshS.l, MeshS.lF, MeshS.p]
  exact ent
theorem mesh_find0 (m : MeshS) (c : Int) (hc : ¬ IsC m.g.w m.g.h c) : Spec PP 122 #[m.p, .int .i64 c] m.l (fun v M => v = .tuple #[.pointer none, .int .i64 0, .bool false] ∧ M = m.l) := by
  refine spec_of (Go.Proofs.Tryz.func122) rfl rfl rfl (by exact fc_enters_122) ?_
  intro g F
  try dsimp only [List.cons_append, List.nil_append, GridS.l, GridS.p, MeshS.l, MeshS.lF, MeshS.p]
  refine r_seq ?_
  refine r_reg ?_
  refine ws (st_po (po_assign rfl) rfl rfl rfl ?_)
  refine ws (st_po (po_assign rfl) rfl rfl rfl ?_)
  refine ws (st_po (po_assign rfl) rfl rfl rfl ?_)
  refine s_nil ?_
  refine at_then_wp ?_
  refine r_seq ?_
  refine r_seq ?_
  refine r_reg ?_
  refine ws (st_po (po_move rfl) rfl rfl rfl ?_)
  refine ws (st_po (po_peq rfl rfl (by exact fc_ptr_63)) rfl rfl rfl ?_)
  refine s_nil ?_
  refine at_then_wp ?_
  refine r_cond_f rfl (rfl) ?_
  refine r_skip ?_
  refine at_then_wp ?_
  refine r_seq ?_
  refine r_reg ?_
  refine ws (st_po (po_move rfl) rfl rfl rfl ?_)
  refine ws (st_po (po_nil rfl) rfl rfl rfl ?_)
  refine ws (st_po (po_faddr rfl (by exact fc_field_101_0_0)) rfl rfl rfl ?_)
  refine ws (st_po (po_load rfl (by exact fc_flat_27) (by rfl)) rfl rfl rfl ?_)
  refine ws (st_call (co_fn rfl rfl) (grid_Size m.g) (by infer_instance) rfl rfl rfl ?_)
  rintro v20 _ ⟨rfl, rfl⟩
  try dsimp only [List.cons_append, List.nil_append, GridS.l, GridS.p, MeshS.l, MeshS.lF, MeshS.p]
  refine ws (st_po (po_move rfl) rfl rfl rfl ?_)
  refine ws (st_po (po_extract rfl rfl) rfl rfl rfl ?_)
  refine ws (st_po (po_extract rfl rfl) rfl rfl rfl ?_)
  refine ws (st_po (po_assign rfl) rfl rfl rfl ?_)
  refine ws (st_po (po_assign rfl) rfl rfl rfl ?_)
  refine s_nil ?_
  refine at_then_wp ?_
  refine r_seq ?_
  refine r_reg ?_
  refine ws (st_po (po_move rfl) rfl rfl rfl ?_)
  refine ws (st_po (po_move rfl) rfl rfl rfl ?_)
  refine ws (st_po (po_move rfl) rfl rfl rfl ?_)
  refine ws (st_call (co_fn rfl rfl) (where_Sector m.g.w m.g.h c) (by infer_instance) rfl rfl rfl ?_)
  rintro v26 _ ⟨rfl, rfl⟩
  try dsimp only [List.cons_append, List.nil_append, GridS.l, GridS.p, MeshS.l, MeshS.lF, MeshS.p]
  rw [sectorN, if_neg hc]
  refine ws (st_po (po_assign rfl) rfl rfl rfl ?_)
  refine s_nil ?_
  refine at_then_wp ?_
  refine r_seq ?_
  refine r_seq ?_
  refine r_reg ?_
  refine ws (st_po (po_move rfl) rfl rfl rfl ?_)
  refine ws (st_po (po_lt rfl rfl) rfl rfl rfl ?_)
  refine s_nil ?_
  refine at_then_wp ?_
  first | refine r_dec_t rfl (by decide) ?_ | refine r_nd_t rfl (by decide) ?_ | refine r_cond_t rfl (by decide) ?_
  refine r_seq ?_
  refine r_reg ?_
  refine ws (st_po (po_assign rfl) rfl rfl rfl ?_)
  refine ws (st_po (po_assign rfl) rfl rfl rfl ?_)
  refine ws (st_po (po_assign rfl) rfl rfl rfl ?_)
  refine s_nil ?_
  refine at_then_wp ?_
  refine r_ret ?_
  refine at_then_ret ?_
  refine at_ret3 rfl (rv_tmp rfl) (rv_tmp rfl) (rv_tmp rfl) ⟨_, ⟨rfl, rfl⟩, ?_⟩
  try dsimp only [List.cons_append, List.nil_append, GridS.l, GridS.p, MeshS.l, MeshS.lF, MeshS.p]
  exact ent
end Hd
end
section
namespace Hd
set_option maxRecDepth 100000
open Go

/-- the edges that come to a node from its sector's nodes, of the first k of them -/
def InE (g : GridS) (b : Int) (d : List Int) (k : Nat) (e : Edg) : Prop := ∃ i : Nat, i < k ∧ (nodesN g.w g.h g.c (sectorN g.w g.h b))[i]? = some e.to ∧ e.to ≠ b ∧ e.cost = gAt d (localN g.w g.h e.to) ∧ e.cost ≠ 1099511627776
/-- those that come over the first k sides -/
def OverE (g : GridS) (b : Int) (k : Nat) (e : Edg) : Prop := ∃ s : Nat, s < k ∧ stepN g.w g.h b s = e.to ∧ IsC g.w g.h e.to ∧ sectorN g.w g.h e.to ≠ sectorN g.w g.h b ∧ e.to ∈ nodesN g.w g.h g.c (sectorN g.w g.h e.to) ∧ e.cost = costN g.c b
theorem InE_succ {g : GridS} {b : Int} {d : List Int} {k : Nat} {a : Int} (ha : (nodesN g.w g.h g.c (sectorN g.w g.h b))[k]? = some a) (e : Edg) :
    InE g b d (k + 1) e ↔ InE g b d k e ∨ (e.to = a ∧ a ≠ b ∧ e.cost = gAt d (localN g.w g.h a) ∧ e.cost ≠ 1099511627776) := by
  constructor
  · rintro ⟨i, h1, h2, h3, h4, h5⟩
    by_cases h : i = k
    · subst h; rw [ha] at h2; cases h2; exact .inr ⟨rfl, h3, h4, h5⟩
    · exact .inl ⟨i, by omega, h2, h3, h4, h5⟩
  · rintro (⟨i, h1, h2⟩ | ⟨rfl, h3, h4, h5⟩)
    · exact ⟨i, by omega, h2⟩
    · exact ⟨k, by omega, ha, h3, h4, h5⟩
theorem OverE_succ {g : GridS} {b : Int} {k : Nat} (e : Edg) : OverE g b (k + 1) e ↔ OverE g b k e ∨ (stepN g.w g.h b k = e.to ∧ IsC g.w g.h e.to ∧ sectorN g.w g.h e.to ≠ sectorN g.w g.h b ∧ e.to ∈ nodesN g.w g.h g.c (sectorN g.w g.h e.to) ∧ e.cost = costN g.c b) := by
  constructor
  · rintro ⟨i, h1, h2⟩
    by_cases h : i = k
    · subst h; exact .inr h2
    · exact .inl ⟨i, by omega, h2⟩
  · rintro (⟨i, h1, h2⟩ | h2)
    · exact ⟨i, by omega, h2⟩
    · exact ⟨k, by omega, h2⟩

theorem rising_inj {l : List Int} (h : Rising l) {i j : Nat} {a b : Int} (hi : l[i]? = some a) (hj : l[j]? = some b) (e : a = b) : i = j := by
  have h1 := lt_of_get hi
  have h2 := lt_of_get hj
  rw [List.getElem?_eq_getElem h1] at hi
  rw [List.getElem?_eq_getElem h2] at hj
  have e1 := Option.some.inj hi
  have e2 := Option.some.inj hj
  rcases Nat.lt_trichotomy i j with f | f | f
  · have := h i j h1 h2 f; omega
  · exact f
  · have := h j i h2 h1 f; omega
theorem gAt_nn {w h : Int} {C : List Int} {src : Int → Int → Prop} {d : List Int} (k : IsDist w h C src (dF d)) {c : Int} : 0 ≤ gAt d c := by
  by_cases e : c.toNat < d.length
  · rw [gAt_get e]; exact (dist_rng k _ (List.getElem_mem e)).1
  · rw [gAt_oob e]; exact Int.le_refl _
theorem between_val {dist d : List Int} {k : Nat} {c : Int} (hr : ∀ v ∈ dist, -1 ≤ v ∧ v ≤ 2147483647) (h : dist[k]? = some (if gAt d c = 1099511627776 then -1 else gAt d c)) (hd : 0 ≤ gAt d c) : (if gAt dist (k : Int) = -1 then 1099511627776 else gAt dist (k : Int)) = gAt d c := by
  have hl := lt_of_get h
  rw [List.getElem?_eq_getElem hl] at h
  have h := Option.some.inj h
  rw [gAt_nat hl, h]
  split <;> split <;> omega
theorem mesh_Into (m : MeshS) (ok : MeshFr m) (b : Int) (hc : IsC m.g.w m.g.h b) (hb : b ∈ nodesN m.g.w m.g.h m.g.c (sectorN m.g.w m.g.h b)) : Spec PP 99 #[m.p, .int .i64 b] m.l
    (fun v M => ∃ (d : List Int) (es : List Edg), M = m.l ++ [Sl eE v es] ∧ es.length ≤ 300 ∧ d.length = (tileN m.g (sectorN m.g.w m.g.h b)).c.length ∧
      IsDist (tileN m.g (sectorN m.g.w m.g.h b)).w (tileN m.g (sectorN m.g.w m.g.h b)).h (tileN m.g (sectorN m.g.w m.g.h b)).c (srcS (oneS (localN m.g.w m.g.h b))) (dF d) ∧
      ∀ e, e ∈ es ↔ InE m.g b d (nodesN m.g.w m.g.h m.g.c (sectorN m.g.w m.g.h b)).length e ∨ OverE m.g b 4 e) := by
  have hs := (sector_lt hc).1
  generalize hse : sectorN m.g.w m.g.h b = i at *
  have hil := ok.iss.1 hs
  have hx : m.ps[i.toNat]? = some (m.ps[i.toNat]'(by omega)) := List.getElem?_eq_getElem (by omega)
  have hp := ok.part i.toNat _ hx
  have hnl := nodes_len m.g.w m.g.h m.g.c i
  have hin : ((i.toNat : Nat) : Int) = i := Int.toNat_of_nonneg hil.1
  have hpn : (m.ps[i.toNat]'(by omega)).nodes = nodesN m.g.w m.g.h m.g.c i := by rw [hp.nodes, hin]
  have hplen := hp.len
  rw [hpn] at hplen
  have hnl2 : (m.ps[i.toNat]'(by omega)).nodes.length ≤ 256 := by rw [hpn]; exact hnl
  have hnr := nodes_rising (c := m.g.c) hs
  have hfi := mesh_find m ok b hc
  rw [hse] at hfi
  refine spec_of (Go.Proofs.Tryz.func99) rfl rfl rfl (by exact fc_enters_99) ?_
  intro g F
  try dsimp only [List.cons_append, List.nil_append, GridS.l, GridS.p, MeshS.l, MeshS.lF, MeshS.p]
  refine r_seq ?_
  refine r_reg ?_
  refine ws (st_po (po_assign rfl) rfl rfl rfl ?_)
  refine s_nil ?_
  refine at_then_wp ?_
  refine r_seq ?_
  refine r_reg ?_
  refine ws (st_po (po_move rfl) rfl rfl rfl ?_)
  refine ws (st_po (po_move rfl) rfl rfl rfl ?_)
  refine ws (st_call (co_fn rfl rfl) (hfi) (by infer_instance) rfl rfl rfl ?_)
  rintro v22 _ ⟨⟨j, rfl, hj⟩, rfl⟩
  try dsimp only [List.cons_append, List.nil_append, GridS.l, GridS.p, MeshS.l, MeshS.lF, MeshS.p]
  have hjn := hj hb
  rw [← hpn] at hjn
  obtain ⟨d, hdl, hd, hdc⟩ := hp.col j b hjn
  have hjl := lt_of_get hjn
  rw [hin] at hdl hd
  refine ws (st_po (po_move rfl) rfl rfl rfl ?_)
  refine ws (st_po (po_extract rfl rfl) rfl rfl rfl ?_)
  refine ws (st_po (po_extract rfl rfl) rfl rfl rfl ?_)
  refine ws (st_po (po_extract rfl rfl) rfl rfl rfl ?_)
  refine ws (st_po (po_assign rfl) rfl rfl rfl ?_)
  refine ws (st_po (po_assign rfl) rfl rfl rfl ?_)
  refine ws (st_po (po_assign rfl) rfl rfl rfl ?_)
  refine s_nil ?_
  refine at_then_wp ?_
  refine r_seq ?_
  refine r_seq ?_
  refine r_reg ?_
  refine ws (st_po (po_move rfl) rfl rfl rfl ?_)
  refine ws (st_po (po_not rfl) rfl rfl rfl ?_)
  refine s_nil ?_
  refine at_then_wp ?_
  refine r_cond_f rfl (by simp [hb]) ?_
  refine r_skip ?_
  refine at_then_wp ?_
  refine r_seq ?_
  refine wp_ent (ent_take slP m.ps hx) ?_
  refine r_reg ?_
  refine ws (st_po (po_move rfl) rfl rfl rfl ?_)
  refine ws (st_po (po_nil_sl (E := eP) (xs := m.ps) rfl (by omega)) rfl rfl rfl ?_)
  refine ws (st_po (po_faddr_sl (E := eP) (xs := m.ps) rfl (by omega) (by exact fc_field_124_1_1)) rfl rfl rfl ?_)
  refine ws (st_po (po_load_sl (E := eP) (xs := m.ps) (y := m.ps[i.toNat]'(by omega)) rfl hx (by exact fc_flat_35) (by rfl)) rfl rfl rfl ?_)
  refine ws (st_po (po_len rfl (by exact fc_slice_35_3_1)) rfl rfl rfl ?_)
  refine ws (st_po (po_add' rfl rfl (by omega) (by omega)) rfl rfl rfl ?_)
  refine ws (st_xo (xo_make0 eE ⟨0, 0⟩ rfl rfl (by exact fc_slice_73_76_2) (by exact fc_elem_76_2_16) (by exact fc_zero_76) rfl (by omega) (by omega) (by omega)) rfl rfl rfl ?_)
  rintro v34 _ rfl
  refine ws (st_po (po_assign rfl) rfl rfl rfl ?_)
  refine s_nil ?_
  refine at_then_wp ?_
  refine r_seq ?_
  refine r_seq ?_
  refine r_reg ?_
  refine ws (st_po (po_move rfl) rfl rfl rfl ?_)
  refine ws (st_po (po_nil_sl (E := eP) (xs := m.ps) rfl (by omega)) rfl rfl rfl ?_)
  refine ws (st_po (po_faddr_sl (E := eP) (xs := m.ps) rfl (by omega) (by exact fc_field_124_1_1)) rfl rfl rfl ?_)
  refine ws (st_po (po_load_sl (E := eP) (xs := m.ps) (y := m.ps[i.toNat]'(by omega)) rfl hx (by exact fc_flat_35) (by rfl)) rfl rfl rfl ?_)
  refine ws (st_po (po_len rfl (by exact fc_slice_35_3_1)) rfl rfl rfl ?_)
  refine ws (st_po (po_move rfl) rfl rfl rfl ?_)
  refine s_nil ?_
  refine at_then_wp ?_
  refine r_block ?_
  refine r_loop (S := Nat × Value × List Edg) (fun ⟨k, ov, es⟩ => [(8, ov), (40, .int .i64 k)]) [(0, _), (1, _), (5, _), (6, _), (38, _), (39, _)] (fun ⟨k, ov, es⟩ => [Sl eE ov es, Sl eI (m.ps[i.toNat]'(by omega)).n.v (m.ps[i.toNat]'(by omega)).nodes, Sl eW (m.ps[i.toNat]'(by omega)).d.v (m.ps[i.toNat]'(by omega)).dist, All ((m.ps.eraseIdx i.toNat).map slP), Sl eP m.pv m.ps, Blk m.b 101 [.pointer (some ⟨m.g.b, 0, none⟩), m.pv, .int .i64 m.clean, .int .u64 m.count], Blk m.g.b 81 [.int .i64 m.g.w, .int .i64 m.g.h, m.g.cv, .int .i64 m.g.ep, m.g.vv], Sl eB m.g.cv m.g.c, Sl eL m.g.vv m.g.vs, F]) (fun ⟨k, ov, es⟩ => k ≤ (m.ps[i.toNat]'(by omega)).nodes.length ∧ es.length ≤ k ∧ ∀ e, e ∈ es ↔ InE m.g b d k e) (fun ⟨k, ov, es⟩ => (m.ps[i.toNat]'(by omega)).nodes.length - k) ((0, v34, [])) (And.intro rfl (And.intro rfl (And.intro rfl (And.intro rfl (And.intro rfl (And.intro rfl (trivial))))))) (And.intro rfl (And.intro rfl (trivial))) (⟨by omega, by simp, fun e => ⟨fun h => (by cases h), fun h => (by obtain ⟨i, h, _⟩ := h; omega)⟩⟩) ent ?_
  rintro ⟨k, ov, es⟩ ⟨hk, hel, hes⟩
  try dsimp only [List.cons_append, List.nil_append, GridS.l, GridS.p, MeshS.l, MeshS.lF, MeshS.p]
  refine r_seq ?_
  refine r_reg ?_
  refine ws (st_po (po_lt rfl rfl) rfl rfl rfl ?_)
  refine s_nil ?_
  refine at_then_wp ?_
  refine r_seq ?_
  first | refine r_cond_not rfl ?_ ?_ | refine r_cond_dec rfl ?_ ?_ | refine r_cond rfl ?_ ?_
  · intro hlt
    have hkl : k < (m.ps[i.toNat]'(by omega)).nodes.length := by omega
    obtain ⟨a, hae⟩ : ∃ a, (m.ps[i.toNat]'(by omega)).nodes[(k : Int).toNat]'(by omega) = a := ⟨_, rfl⟩
    have hza : (m.ps[i.toNat]'(by omega)).nodes[k]? = some a := by rw [← hae]; exact List.getElem?_eq_getElem hkl
    have hdk := hdc k _ hza
    have hrr := between_val hp.rng hdk (gAt_nn hd)
    refine r_skip ?_
    refine at_then_wp ?_
    refine r_seq ?_
    refine r_block ?_
    refine r_seq ?_
    refine r_reg ?_
    refine ws (st_po (po_move rfl) rfl rfl rfl ?_)
    refine ws (st_po (po_iaddr rfl rfl (by exact fc_slice_35_3_1) (by first | omega | (simp only [List.length_nil, List.length_cons, List.length_append, List.length_replicate, List.length_set, List.length_map, List.length_take, List.length_drop]; omega)) (by first | omega | (simp only [List.length_nil, List.length_cons, List.length_append, List.length_replicate, List.length_set, List.length_map, List.length_take, List.length_drop]; omega))) rfl rfl rfl ?_)
    refine ws (st_po (po_load_sl rfl (List.getElem?_eq_getElem (by first | omega | (simp only [List.length_nil, List.length_cons, List.length_append, List.length_replicate, List.length_set, List.length_map, List.length_take, List.length_drop]; omega))) (by exact fc_flat_3) (by rfl)) rfl rfl rfl ?_)
    refine ws (st_po (po_assign rfl) rfl rfl rfl ?_)
    refine ws (st_po (po_assign rfl) rfl rfl rfl ?_)
    refine s_nil ?_
    refine at_then_wp ?_
    refine r_seq ?_
    rw [hae]
    refine r_reg ?_
    refine ws (st_po (po_move rfl) rfl rfl rfl ?_)
    refine ws (st_po (po_move rfl) rfl rfl rfl ?_)
    refine ws (st_po (po_move rfl) rfl rfl rfl ?_)
    refine ws (st_call (co_fn rfl rfl) (part_between m.pv m.ps i.toNat k j (by omega) (by rw [hpn]; omega) hp.len hkl hjl hp.rng) (by infer_instance) rfl rfl rfl ?_)
    rintro v48 _ ⟨rfl, rfl⟩
    try dsimp only [List.cons_append, List.nil_append, GridS.l, GridS.p, MeshS.l, MeshS.lF, MeshS.p]
    rw [hrr]
    have hab : (k : Int) ≠ j → a ≠ b := fun h1 h2 => h1 (by rw [hpn] at hza hjn; have := rising_inj hnr hza hjn h2; omega)
    have hba : k = j → a = b := fun h1 => by subst h1; rw [hza] at hjn; exact Option.some.inj hjn
    refine ws (st_po (po_assign rfl) rfl rfl rfl ?_)
    refine s_nil ?_
    refine at_then_wp ?_
    refine r_seq ?_
    refine r_reg ?_
    refine ws (st_po (po_move rfl) rfl rfl rfl ?_)
    refine ws (st_po (po_move rfl) rfl rfl rfl ?_)
    refine ws (st_po (po_ne rfl rfl) rfl rfl rfl ?_)
    by_cases hkj : (k : Int) ≠ j
    · skip
      refine ws (st_po (po_bt (po_move rfl) (decide_eq_true hkj)) rfl rfl rfl ?_)
      refine ws (st_po (po_move rfl) rfl rfl rfl ?_)
      refine ws (st_po (po_ne rfl rfl) rfl rfl rfl ?_)
      refine ws (st_po (po_pick_t rfl rfl) rfl rfl rfl ?_)
      refine s_nil ?_
      refine at_then_wp ?_
      first | refine r_cond_not rfl ?_ ?_ | refine r_cond_dec rfl ?_ ?_ | refine r_cond rfl ?_ ?_
      · intro hne
        refine r_reg ?_
        refine ws (st_po (po_move rfl) rfl rfl rfl ?_)
        refine ws (st_po (po_move rfl) rfl rfl rfl ?_)
        refine ws (st_po (po_move rfl) rfl rfl rfl ?_)
        refine ws (st_po (po_build1 rfl (by exact fc_zero_76) (by exact fc_places_76_0_1) (by exact fc_info_76) rfl) rfl rfl rfl ?_)
        refine ws (st_xo (xo_bslice eE [⟨a, gAt d (localN m.g.w m.g.h a)⟩] rfl (by exact fc_slice_73_76_2) (by exact fc_elem_76_2_16) ⟨rfl, rfl, trivial⟩ rfl (by decide)) rfl rfl rfl ?_)
        rintro v60 _ rfl
        refine ws (st_xo (xo_append rfl rfl (by exact fc_slice_73_76_2) (by exact fc_slice_73_76_2) (by exact fc_elem_76_2_16) (by first | omega | (simp only [List.length_nil, List.length_cons, List.length_append, List.length_replicate, List.length_set, List.length_map, List.length_take, List.length_drop]; omega)) (by first | omega | (simp only [List.length_nil, List.length_cons, List.length_append, List.length_replicate, List.length_set, List.length_map, List.length_take, List.length_drop]; omega))) rfl rfl rfl ?_)
        rintro v61 _ rfl
        refine ws (st_po (po_assign rfl) rfl rfl rfl ?_)
        refine s_nil ?_
        refine at_block_normal ?_
        refine at_then_wp ?_
        refine r_reg ?_
        refine ws (st_po (po_add' rfl rfl (by omega) (by omega)) rfl rfl rfl ?_)
        refine ws (st_po (po_move rfl) rfl rfl rfl ?_)
        refine s_nil ?_
        exact at_again ((k + 1, v61, es ++ [⟨a, gAt d (localN m.g.w m.g.h a)⟩])) (And.intro rfl (And.intro rfl (trivial))) (And.intro rfl (And.intro rfl (And.intro rfl (And.intro rfl (And.intro rfl (And.intro rfl (trivial))))))) (⟨by omega, by simp; omega, fun e => by
      rw [List.mem_append, List.mem_singleton, hes e, InE_succ (by rw [hse, ← hpn]; exact hza)]
      refine or_congr_right ⟨fun h => by subst h; exact ⟨rfl, hab hkj, rfl, hne⟩, fun h => ?_⟩
      obtain ⟨h1, -, h3, -⟩ := h
      cases e; simp_all⟩) (by omega) ent
      · intro hne
        refine r_skip ?_
        refine at_block_normal ?_
        refine at_then_wp ?_
        refine r_reg ?_
        refine ws (st_po (po_add' rfl rfl (by omega) (by omega)) rfl rfl rfl ?_)
        refine ws (st_po (po_move rfl) rfl rfl rfl ?_)
        refine s_nil ?_
        exact at_again ((k + 1, ov, es)) (And.intro rfl (And.intro rfl (trivial))) (And.intro rfl (And.intro rfl (And.intro rfl (And.intro rfl (And.intro rfl (And.intro rfl (trivial))))))) (⟨by omega, by dsimp only; omega, fun e => by
      rw [hes e, InE_succ (by rw [hse, ← hpn]; exact hza)]
      exact ⟨.inl, fun h => h.elim id (fun h => absurd h.2.2.1 (fun h2 => h.2.2.2 (by rw [h2]; exact Classical.not_not.1 hne)))⟩⟩) (by omega) ent
    · skip
      refine ws (st_po (po_bf (po_move rfl) (decide_eq_false hkj)) rfl rfl rfl ?_)
      refine ws (st_no rfl rfl rfl ?_)
      refine ws (st_no rfl rfl rfl ?_)
      refine ws (st_po (po_pick_f rfl rfl) rfl rfl rfl ?_)
      refine s_nil ?_
      refine at_then_wp ?_
      refine r_cond_f rfl rfl ?_
      refine r_skip ?_
      refine at_block_normal ?_
      refine at_then_wp ?_
      refine r_reg ?_
      refine ws (st_po (po_add' rfl rfl (by omega) (by omega)) rfl rfl rfl ?_)
      refine ws (st_po (po_move rfl) rfl rfl rfl ?_)
      refine s_nil ?_
      exact at_again ((k + 1, ov, es)) (And.intro rfl (And.intro rfl (trivial))) (And.intro rfl (And.intro rfl (And.intro rfl (And.intro rfl (And.intro rfl (And.intro rfl (trivial))))))) (⟨by omega, by dsimp only; omega, fun e => by
      rw [hes e, InE_succ (by rw [hse, ← hpn]; exact hza)]
      exact ⟨.inl, fun h => h.elim id (fun h => absurd (hba (by omega)) h.2.1)⟩⟩) (by omega) ent
  · intro hlt
    refine r_exit ?_
    refine at_then_exit ?_
    refine at_then_exit ?_
    refine at_block_here ?_
    refine at_then_wp ?_
    refine r_seq ?_
    refine wp_ent (ent_put slP m.ps (i := i.toNat) (m.ps[i.toNat]'(by omega)) (by omega)) ?_
    rw [set_same hx]
    refine r_reg ?_
    refine ws (st_po (po_move rfl) rfl rfl rfl ?_)
    refine ws (st_po (po_nil rfl) rfl rfl rfl ?_)
    refine ws (st_po (po_faddr rfl (by exact fc_field_101_0_0)) rfl rfl rfl ?_)
    refine ws (st_po (po_load rfl (by exact fc_flat_27) (by rfl)) rfl rfl rfl ?_)
    refine ws (st_call (co_fn rfl rfl) (grid_Size m.g) (by infer_instance) rfl rfl rfl ?_)
    rintro v68 _ ⟨rfl, rfl⟩
    try dsimp only [List.cons_append, List.nil_append, GridS.l, GridS.p, MeshS.l, MeshS.lF, MeshS.p]
    refine ws (st_po (po_move rfl) rfl rfl rfl ?_)
    refine ws (st_po (po_extract rfl rfl) rfl rfl rfl ?_)
    refine ws (st_po (po_extract rfl rfl) rfl rfl rfl ?_)
    refine ws (st_po (po_assign rfl) rfl rfl rfl ?_)
    refine ws (st_po (po_assign rfl) rfl rfl rfl ?_)
    refine s_nil ?_
    refine at_then_wp ?_
    refine r_seq ?_
    refine r_seq ?_
    refine r_reg ?_
    refine ws (st_po (po_assign rfl) rfl rfl rfl ?_)
    refine s_nil ?_
    refine at_then_wp ?_
    refine r_block ?_
    refine r_loop (S := Nat × Value × List Edg) (fun ⟨s, ov, es⟩ => [(8, ov), (14, .int .i64 s)]) [(0, _), (1, _), (5, _), (12, _), (13, _)] (fun ⟨s, ov, es⟩ => Sl eE ov es :: m.lF F) (fun ⟨s, ov, es⟩ => s ≤ 4 ∧ es.length ≤ 256 + s ∧ ∀ e, e ∈ es ↔ InE m.g b d (nodesN m.g.w m.g.h m.g.c i).length e ∨ OverE m.g b s e) (fun ⟨s, ov, es⟩ => 4 - s) ((0, ov, es)) (And.intro rfl (And.intro rfl (And.intro rfl (And.intro rfl (And.intro rfl (trivial)))))) (And.intro rfl (And.intro rfl (trivial))) (⟨by omega, by omega, fun e => by rw [hes e, show k = (nodesN m.g.w m.g.h m.g.c i).length by rw [← hpn]; omega]; exact ⟨.inl, fun h => h.elim id (fun ⟨s, h, _⟩ => by omega)⟩⟩) ent ?_
    rintro ⟨s, ov, es⟩ ⟨hs4, hel2, hes2⟩
    try dsimp only [List.cons_append, List.nil_append, GridS.l, GridS.p, MeshS.l, MeshS.lF, MeshS.p]
    refine r_seq ?_
    refine r_seq ?_
    refine r_reg ?_
    refine ws (st_po (po_move rfl) rfl rfl rfl ?_)
    refine ws (st_po (po_le rfl rfl) rfl rfl rfl ?_)
    refine s_nil ?_
    refine at_then_wp ?_
    first | refine r_cond_not rfl ?_ ?_ | refine r_cond_dec rfl ?_ ?_ | refine r_cond rfl ?_ ?_
    · intro hs3
      by_cases hca : IsC m.g.w m.g.h (stepN m.g.w m.g.h b s)
      · skip
        refine r_skip ?_
        refine at_then_wp ?_
        refine r_seq ?_
        refine r_block ?_
        refine r_seq ?_
        refine r_reg ?_
        refine ws (st_po (po_move rfl) rfl rfl rfl ?_)
        refine ws (st_po (po_move rfl) rfl rfl rfl ?_)
        refine ws (st_po (po_move rfl) rfl rfl rfl ?_)
        refine ws (st_po (po_move rfl) rfl rfl rfl ?_)
        refine ws (st_call (co_fn rfl rfl) (where_Step m.g.w m.g.h b s) (by infer_instance) rfl rfl rfl ?_)
        rintro v79 _ ⟨rfl, rfl⟩
        try dsimp only [List.cons_append, List.nil_append, GridS.l, GridS.p, MeshS.l, MeshS.lF, MeshS.p]
        refine ws (st_po (po_assign rfl) rfl rfl rfl ?_)
        refine s_nil ?_
        refine at_then_wp ?_
        refine r_seq ?_
        refine r_reg ?_
        refine ws (st_po (po_move rfl) rfl rfl rfl ?_)
        refine ws (st_po (po_move rfl) rfl rfl rfl ?_)
        refine ws (st_call (co_fn rfl rfl) (mesh_find m ok (stepN m.g.w m.g.h b s) hca) (by infer_instance) rfl rfl rfl ?_)
        rintro v83 _ ⟨⟨r, rfl, hr⟩, rfl⟩
        try dsimp only [List.cons_append, List.nil_append, GridS.l, GridS.p, MeshS.l, MeshS.lF, MeshS.p]
        refine ws (st_po (po_move rfl) rfl rfl rfl ?_)
        refine ws (st_po (po_extract rfl rfl) rfl rfl rfl ?_)
        refine ws (st_po (po_extract rfl rfl) rfl rfl rfl ?_)
        refine ws (st_po (po_extract rfl rfl) rfl rfl rfl ?_)
        refine ws (st_po (po_assign rfl) rfl rfl rfl ?_)
        refine ws (st_po (po_assign rfl) rfl rfl rfl ?_)
        refine ws (st_po (po_assign rfl) rfl rfl rfl ?_)
        refine s_nil ?_
        refine at_then_wp ?_
        refine r_seq ?_
        refine r_reg ?_
        refine ws (st_po (po_move rfl) rfl rfl rfl ?_)
        by_cases hmem : stepN m.g.w m.g.h b s ∈ nodesN m.g.w m.g.h m.g.c (sectorN m.g.w m.g.h (stepN m.g.w m.g.h b s))
        · skip
          refine ws (st_po (po_bt (po_move rfl) (decide_eq_true hmem)) rfl rfl rfl ?_)
          have hsl := ok.iss.1 (sector_lt hca).1
          refine ws (st_po (po_move rfl) rfl rfl rfl ?_)
          refine ws (st_po (po_move rfl) rfl rfl rfl ?_)
          refine ws (st_po (po_pne_sl (E := eP) (xs := m.ps) rfl rfl (by omega) (by exact fc_ptrnz_161)) rfl rfl rfl ?_)
          refine ws (st_po (po_pick_t rfl rfl) rfl rfl rfl ?_)
          refine s_nil ?_
          refine at_then_wp ?_
          first | refine r_cond_not rfl ?_ ?_ | refine r_cond_dec rfl ?_ ?_ | refine r_cond rfl ?_ ?_
          · intro hq
            refine r_reg ?_
            refine ws (st_po (po_move rfl) rfl rfl rfl ?_)
            refine ws (st_po (po_move rfl) rfl rfl rfl ?_)
            refine ws (st_po (po_move rfl) rfl rfl rfl ?_)
            refine ws (st_po (po_nil rfl) rfl rfl rfl ?_)
            refine ws (st_po (po_faddr rfl (by exact fc_field_101_0_0)) rfl rfl rfl ?_)
            refine ws (st_po (po_load rfl (by exact fc_flat_27) (by rfl)) rfl rfl rfl ?_)
            refine ws (st_po (po_move rfl) rfl rfl rfl ?_)
            refine ws (st_call (co_fn rfl rfl) (grid_Cost m.g b ok.g.bytes) (by infer_instance) rfl rfl rfl ?_)
            rintro v100 _ ⟨rfl, rfl⟩
            try dsimp only [List.cons_append, List.nil_append, GridS.l, GridS.p, MeshS.l, MeshS.lF, MeshS.p]
            refine ws (st_po (po_build1 rfl (by exact fc_zero_76) (by exact fc_places_76_0_1) (by exact fc_info_76) rfl) rfl rfl rfl ?_)
            refine ws (st_xo (xo_bslice eE [⟨stepN m.g.w m.g.h b s, costN m.g.c b⟩] rfl (by exact fc_slice_73_76_2) (by exact fc_elem_76_2_16) ⟨rfl, rfl, trivial⟩ rfl (by decide)) rfl rfl rfl ?_)
            rintro v102 _ rfl
            refine ws (st_xo (xo_append rfl rfl (by exact fc_slice_73_76_2) (by exact fc_slice_73_76_2) (by exact fc_elem_76_2_16) (by first | omega | (simp only [List.length_nil, List.length_cons, List.length_append, List.length_replicate, List.length_set, List.length_map, List.length_take, List.length_drop]; omega)) (by first | omega | (simp only [List.length_nil, List.length_cons, List.length_append, List.length_replicate, List.length_set, List.length_map, List.length_take, List.length_drop]; omega))) rfl rfl rfl ?_)
            rintro v103 _ rfl
            refine ws (st_po (po_assign rfl) rfl rfl rfl ?_)
            refine s_nil ?_
            refine at_block_normal ?_
            refine at_then_wp ?_
            refine r_reg ?_
            refine ws (st_po (po_move rfl) rfl rfl rfl ?_)
            refine ws (st_po (po_add' rfl rfl (by omega) (by omega)) rfl rfl rfl ?_)
            refine ws (st_po (po_assign rfl) rfl rfl rfl ?_)
            refine s_nil ?_
            exact at_again ((s + 1, v103, es ++ [⟨stepN m.g.w m.g.h b s, costN m.g.c b⟩])) (And.intro rfl (And.intro rfl (trivial))) (And.intro rfl (And.intro rfl (And.intro rfl (And.intro rfl (And.intro rfl (trivial)))))) (⟨by omega, by simp; omega, fun e => by
      rw [List.mem_append, List.mem_singleton, hes2 e, OverE_succ, or_assoc]
      refine or_congr_right (or_congr_right ⟨fun h => by subst h; exact ⟨rfl, hca, by rw [hse]; intro h2; apply hq; rw [h2], hmem, rfl⟩, fun h => ?_⟩)
      obtain ⟨h1, -, -, -, h5⟩ := h
      cases e; simp_all⟩) (by omega) ent
          · intro hq
            refine r_skip ?_
            refine at_block_normal ?_
            refine at_then_wp ?_
            refine r_reg ?_
            refine ws (st_po (po_move rfl) rfl rfl rfl ?_)
            refine ws (st_po (po_add' rfl rfl (by omega) (by omega)) rfl rfl rfl ?_)
            refine ws (st_po (po_assign rfl) rfl rfl rfl ?_)
            refine s_nil ?_
            exact at_again ((s + 1, ov, es)) (And.intro rfl (And.intro rfl (trivial))) (And.intro rfl (And.intro rfl (And.intro rfl (And.intro rfl (And.intro rfl (trivial)))))) (⟨by omega, by dsimp only; omega, fun e => by
      rw [hes2 e, OverE_succ, ← or_assoc]
      exact ⟨.inl, fun h => h.elim id (fun h => absurd h.2.2.1 (by rw [← h.1, hse]; intro h2; apply h2; have := Classical.not_not.1 hq; omega))⟩⟩) (by omega) ent
        · skip
          refine ws (st_po (po_bf (po_move rfl) (decide_eq_false hmem)) rfl rfl rfl ?_)
          refine ws (st_no rfl rfl rfl ?_)
          refine ws (st_no rfl rfl rfl ?_)
          refine ws (st_no rfl rfl rfl ?_)
          refine ws (st_po (po_pick_f rfl rfl) rfl rfl rfl ?_)
          refine s_nil ?_
          refine at_then_wp ?_
          refine r_cond_f rfl rfl ?_
          refine r_skip ?_
          refine at_block_normal ?_
          refine at_then_wp ?_
          refine r_reg ?_
          refine ws (st_po (po_move rfl) rfl rfl rfl ?_)
          refine ws (st_po (po_add' rfl rfl (by omega) (by omega)) rfl rfl rfl ?_)
          refine ws (st_po (po_assign rfl) rfl rfl rfl ?_)
          refine s_nil ?_
          exact at_again ((s + 1, ov, es)) (And.intro rfl (And.intro rfl (trivial))) (And.intro rfl (And.intro rfl (And.intro rfl (And.intro rfl (And.intro rfl (trivial)))))) (⟨by omega, by dsimp only; omega, fun e => by
      rw [hes2 e, OverE_succ, ← or_assoc]
      exact ⟨.inl, fun h => h.elim id (fun h => absurd h.2.2.2.1 (by rw [← h.1]; exact hmem))⟩⟩) (by omega) ent
      · skip
        refine r_skip ?_
        refine at_then_wp ?_
        refine r_seq ?_
        refine r_block ?_
        refine r_seq ?_
        refine r_reg ?_
        refine ws (st_po (po_move rfl) rfl rfl rfl ?_)
        refine ws (st_po (po_move rfl) rfl rfl rfl ?_)
        refine ws (st_po (po_move rfl) rfl rfl rfl ?_)
        refine ws (st_po (po_move rfl) rfl rfl rfl ?_)
        refine ws (st_call (co_fn rfl rfl) (where_Step m.g.w m.g.h b s) (by infer_instance) rfl rfl rfl ?_)
        rintro v79 _ ⟨rfl, rfl⟩
        try dsimp only [List.cons_append, List.nil_append, GridS.l, GridS.p, MeshS.l, MeshS.lF, MeshS.p]
        refine ws (st_po (po_assign rfl) rfl rfl rfl ?_)
        refine s_nil ?_
        refine at_then_wp ?_
        refine r_seq ?_
        refine r_reg ?_
        refine ws (st_po (po_move rfl) rfl rfl rfl ?_)
        refine ws (st_po (po_move rfl) rfl rfl rfl ?_)
        refine ws (st_call (co_fn rfl rfl) (mesh_find0 m (stepN m.g.w m.g.h b s) hca) (by infer_instance) rfl rfl rfl ?_)
        rintro v83 _ ⟨rfl, rfl⟩
        try dsimp only [List.cons_append, List.nil_append, GridS.l, GridS.p, MeshS.l, MeshS.lF, MeshS.p]
        refine ws (st_po (po_move rfl) rfl rfl rfl ?_)
        refine ws (st_po (po_extract rfl rfl) rfl rfl rfl ?_)
        refine ws (st_po (po_extract rfl rfl) rfl rfl rfl ?_)
        refine ws (st_po (po_extract rfl rfl) rfl rfl rfl ?_)
        refine ws (st_po (po_assign rfl) rfl rfl rfl ?_)
        refine ws (st_po (po_assign rfl) rfl rfl rfl ?_)
        refine ws (st_po (po_assign rfl) rfl rfl rfl ?_)
        refine s_nil ?_
        refine at_then_wp ?_
        refine r_seq ?_
        refine r_reg ?_
        refine ws (st_po (po_move rfl) rfl rfl rfl ?_)
        refine ws (st_po (po_bf (po_move rfl) (rfl)) rfl rfl rfl ?_)
        refine ws (st_no rfl rfl rfl ?_)
        refine ws (st_no rfl rfl rfl ?_)
        refine ws (st_no rfl rfl rfl ?_)
        refine ws (st_po (po_pick_f rfl rfl) rfl rfl rfl ?_)
        refine s_nil ?_
        refine at_then_wp ?_
        refine r_cond_f rfl rfl ?_
        refine r_skip ?_
        refine at_block_normal ?_
        refine at_then_wp ?_
        refine r_reg ?_
        refine ws (st_po (po_move rfl) rfl rfl rfl ?_)
        refine ws (st_po (po_add' rfl rfl (by omega) (by omega)) rfl rfl rfl ?_)
        refine ws (st_po (po_assign rfl) rfl rfl rfl ?_)
        refine s_nil ?_
        exact at_again ((s + 1, ov, es)) (And.intro rfl (And.intro rfl (trivial))) (And.intro rfl (And.intro rfl (And.intro rfl (And.intro rfl (And.intro rfl (trivial)))))) (⟨by omega, by dsimp only; omega, fun e => by
      rw [hes2 e, OverE_succ, ← or_assoc]
      exact ⟨.inl, fun h => h.elim id (fun h => absurd h.2.1 (by rw [← h.1]; exact hca))⟩⟩) (by omega) ent
    · intro hs3
      refine r_exit ?_
      refine at_then_exit ?_
      refine at_then_exit ?_
      refine at_block_here ?_
      refine at_then_wp ?_
      refine r_seq ?_
      refine r_reg ?_
      refine ws (st_po (po_move rfl) rfl rfl rfl ?_)
      refine ws (st_po (po_assign rfl) rfl rfl rfl ?_)
      refine s_nil ?_
      refine at_then_wp ?_
      refine r_ret ?_
      refine at_ret1 rfl (rv_tmp rfl) ⟨_, ⟨d, es, rfl, by omega, hdl, hd, by rw [show (4 : Nat) = s by omega]; exact hes2⟩, ?_⟩
      try dsimp only [List.cons_append, List.nil_append, GridS.l, GridS.p, MeshS.l, MeshS.lF, MeshS.p]
      exact ent
end Hd
end
section
namespace Hd
set_option maxRecDepth 100000
open Go

structure RouteS where
  b : Nat
  goal : Int
  ep : Int
  dv : Value
  dist : List Int
abbrev RouteS.l (r : RouteS) : List HP := [Blk r.b 84 [.int .i64 r.goal, .int .i64 r.ep, r.dv], Sl eW r.dv r.dist]
abbrev RouteS.p (r : RouteS) : Value := .pointer (some ⟨r.b, 0, none⟩)

theorem route_Goal (r : RouteS) : Spec PP 45 #[r.p] r.l (fun v M => v = .int .i64 r.goal ∧ M = r.l) := by
  refine spec_of (Go.Proofs.Tryz.func45) rfl rfl rfl (by exact fc_enters_45) ?_
  intro g F
  try dsimp only [List.cons_append, List.nil_append, GridS.l, GridS.p, MeshS.l, MeshS.lF, MeshS.p, RouteS.l, RouteS.p]
  refine r_seq ?_
  refine r_reg ?_
  refine ws (st_po (po_assign rfl) rfl rfl rfl ?_)
  refine s_nil ?_
  refine at_then_wp ?_
  refine r_seq ?_
  refine r_seq ?_
  refine r_reg ?_
  refine ws (st_po (po_move rfl) rfl rfl rfl ?_)
  refine ws (st_po (po_peq rfl rfl (by exact fc_ptr_28)) rfl rfl rfl ?_)
  refine s_nil ?_
  refine at_then_wp ?_
  refine r_cond_f rfl (rfl) ?_
  refine r_skip ?_
  refine at_then_wp ?_
  refine r_seq ?_
  refine r_reg ?_
  refine ws (st_po (po_move rfl) rfl rfl rfl ?_)
  refine ws (st_po (po_nil rfl) rfl rfl rfl ?_)
  refine ws (st_po (po_faddr rfl (by exact fc_field_84_0_0)) rfl rfl rfl ?_)
  refine ws (st_po (po_load rfl (by exact fc_flat_3) (by rfl)) rfl rfl rfl ?_)
  refine ws (st_po (po_assign rfl) rfl rfl rfl ?_)
  refine s_nil ?_
  refine at_then_wp ?_
  refine r_ret ?_
  refine at_ret1 rfl (rv_tmp rfl) ⟨_, ⟨rfl, rfl⟩, ?_⟩
  try dsimp only [List.cons_append, List.nil_append, GridS.l, GridS.p, MeshS.l, MeshS.lF, MeshS.p, RouteS.l, RouteS.p]
  exact ent
theorem route_Epoch (r : RouteS) : Spec PP 39 #[r.p] r.l (fun v M => v = .int .i64 r.ep ∧ M = r.l) := by
  refine spec_of (Go.Proofs.Tryz.func39) rfl rfl rfl (by exact fc_enters_39) ?_
  intro g F
  try dsimp only [List.cons_append, List.nil_append, GridS.l, GridS.p, MeshS.l, MeshS.lF, MeshS.p, RouteS.l, RouteS.p]
  refine r_seq ?_
  refine r_reg ?_
  refine ws (st_po (po_assign rfl) rfl rfl rfl ?_)
  refine s_nil ?_
  refine at_then_wp ?_
  refine r_seq ?_
  refine r_seq ?_
  refine r_reg ?_
  refine ws (st_po (po_move rfl) rfl rfl rfl ?_)
  refine ws (st_po (po_peq rfl rfl (by exact fc_ptr_28)) rfl rfl rfl ?_)
  refine s_nil ?_
  refine at_then_wp ?_
  refine r_cond_f rfl (rfl) ?_
  refine r_skip ?_
  refine at_then_wp ?_
  refine r_seq ?_
  refine r_reg ?_
  refine ws (st_po (po_move rfl) rfl rfl rfl ?_)
  refine ws (st_po (po_nil rfl) rfl rfl rfl ?_)
  refine ws (st_po (po_faddr rfl (by exact fc_field_84_1_1)) rfl rfl rfl ?_)
  refine ws (st_po (po_load rfl (by exact fc_flat_2) (by rfl)) rfl rfl rfl ?_)
  refine ws (st_po (po_assign rfl) rfl rfl rfl ?_)
  refine s_nil ?_
  refine at_then_wp ?_
  refine r_ret ?_
  refine at_ret1 rfl (rv_tmp rfl) ⟨_, ⟨rfl, rfl⟩, ?_⟩
  try dsimp only [List.cons_append, List.nil_append, GridS.l, GridS.p, MeshS.l, MeshS.lF, MeshS.p, RouteS.l, RouteS.p]
  exact ent
def atN (r : RouteS) (c : Int) : Int := if 0 ≤ c ∧ c < r.dist.length ∧ gAt r.dist c ≠ 2147483647 then gAt r.dist c else 1099511627776
theorem route_At (r : RouteS) (c : Int) (hr : ∀ x ∈ r.dist, 0 ≤ x ∧ x ≤ 2147483647) : Spec PP 20 #[r.p, .int .i64 c] r.l (fun v M => v = .int .i64 (atN r c) ∧ M = r.l) := by
  refine spec_of (Go.Proofs.Tryz.func20) rfl rfl rfl (by exact fc_enters_20) ?_
  intro g F
  try dsimp only [List.cons_append, List.nil_append, GridS.l, GridS.p, MeshS.l, MeshS.lF, MeshS.p, RouteS.l, RouteS.p]
  refine r_seq ?_
  refine r_reg ?_
  refine ws (st_po (po_assign rfl) rfl rfl rfl ?_)
  refine s_nil ?_
  refine at_then_wp ?_
  refine r_seq ?_
  refine r_seq ?_
  refine r_reg ?_
  refine ws (st_po (po_move rfl) rfl rfl rfl ?_)
  refine ws (st_po (po_peq rfl rfl (by exact fc_ptr_28)) rfl rfl rfl ?_)
  refine ws (st_po (po_bf (po_move rfl) (rfl)) rfl rfl rfl ?_)
  refine ws (st_po (po_move rfl) rfl rfl rfl ?_)
  refine ws (st_po (po_lt rfl rfl) rfl rfl rfl ?_)
  refine ws (st_po (po_pick_f rfl rfl) rfl rfl rfl ?_)
  by_cases h1 : c < 0
  · skip
    refine ws (st_po (po_bt (po_move rfl) (decide_eq_true h1)) rfl rfl rfl ?_)
    refine ws (st_no rfl rfl rfl ?_)
    refine ws (st_no rfl rfl rfl ?_)
    refine ws (st_no rfl rfl rfl ?_)
    refine ws (st_no rfl rfl rfl ?_)
    refine ws (st_no rfl rfl rfl ?_)
    refine ws (st_no rfl rfl rfl ?_)
    refine ws (st_no rfl rfl rfl ?_)
    refine ws (st_po (po_pick_t rfl rfl) rfl rfl rfl ?_)
    refine ws (st_po (po_move rfl) rfl rfl rfl ?_)
    refine ws (st_no rfl rfl rfl ?_)
    refine ws (st_no rfl rfl rfl ?_)
    refine ws (st_no rfl rfl rfl ?_)
    refine ws (st_no rfl rfl rfl ?_)
    refine ws (st_no rfl rfl rfl ?_)
    refine ws (st_no rfl rfl rfl ?_)
    refine ws (st_no rfl rfl rfl ?_)
    refine ws (st_no rfl rfl rfl ?_)
    refine ws (st_po (po_pick_t rfl rfl) rfl rfl rfl ?_)
    refine s_nil ?_
    refine at_then_wp ?_
    refine r_cond_t rfl rfl ?_
    refine r_seq ?_
    refine r_reg ?_
    refine ws (st_po (po_assign rfl) rfl rfl rfl ?_)
    refine s_nil ?_
    refine at_then_wp ?_
    refine r_ret ?_
    refine at_then_ret ?_
    refine at_ret1 rfl (rv_tmp rfl) ⟨_, ⟨by rw [atN, if_neg (by omega)], rfl⟩, ?_⟩
    try dsimp only [List.cons_append, List.nil_append, GridS.l, GridS.p, MeshS.l, MeshS.lF, MeshS.p, RouteS.l, RouteS.p]
    exact ent
  · skip
    refine ws (st_po (po_bf (po_move rfl) (decide_eq_false h1)) rfl rfl rfl ?_)
    refine ws (st_po (po_move rfl) rfl rfl rfl ?_)
    refine ws (st_po (po_move rfl) rfl rfl rfl ?_)
    refine ws (st_po (po_nil rfl) rfl rfl rfl ?_)
    refine ws (st_po (po_faddr rfl (by exact fc_field_84_2_2)) rfl rfl rfl ?_)
    refine ws (st_po (po_load rfl (by exact fc_flat_82) (by rfl)) rfl rfl rfl ?_)
    refine ws (st_po (po_len rfl (by exact fc_slice_82_21_1)) rfl rfl rfl ?_)
    refine ws (st_po (po_ge rfl rfl) rfl rfl rfl ?_)
    refine ws (st_po (po_pick_f rfl rfl) rfl rfl rfl ?_)
    by_cases h2 : (r.dist.length : Int) ≤ c
    · skip
      refine ws (st_po (po_bt (po_move rfl) (decide_eq_true h2)) rfl rfl rfl ?_)
      refine ws (st_no rfl rfl rfl ?_)
      refine ws (st_no rfl rfl rfl ?_)
      refine ws (st_no rfl rfl rfl ?_)
      refine ws (st_no rfl rfl rfl ?_)
      refine ws (st_no rfl rfl rfl ?_)
      refine ws (st_no rfl rfl rfl ?_)
      refine ws (st_no rfl rfl rfl ?_)
      refine ws (st_no rfl rfl rfl ?_)
      refine ws (st_po (po_pick_t rfl rfl) rfl rfl rfl ?_)
      refine s_nil ?_
      refine at_then_wp ?_
      refine r_cond_t rfl rfl ?_
      refine r_seq ?_
      refine r_reg ?_
      refine ws (st_po (po_assign rfl) rfl rfl rfl ?_)
      refine s_nil ?_
      refine at_then_wp ?_
      refine r_ret ?_
      refine at_then_ret ?_
      refine at_ret1 rfl (rv_tmp rfl) ⟨_, ⟨by rw [atN, if_neg (by omega)], rfl⟩, ?_⟩
      try dsimp only [List.cons_append, List.nil_append, GridS.l, GridS.p, MeshS.l, MeshS.lF, MeshS.p, RouteS.l, RouteS.p]
      exact ent
    · skip
      refine ws (st_po (po_bf (po_move rfl) (decide_eq_false h2)) rfl rfl rfl ?_)
      have hg : gAt r.dist c = r.dist[c.toNat]'(by omega) := gAt_get (by omega)
      have hb := hr _ (List.getElem_mem (show c.toNat < r.dist.length by omega))
      refine ws (st_po (po_move rfl) rfl rfl rfl ?_)
      refine ws (st_po (po_nil rfl) rfl rfl rfl ?_)
      refine ws (st_po (po_faddr rfl (by exact fc_field_84_2_2)) rfl rfl rfl ?_)
      refine ws (st_po (po_load rfl (by exact fc_flat_82) (by rfl)) rfl rfl rfl ?_)
      refine ws (st_po (po_move rfl) rfl rfl rfl ?_)
      refine ws (st_po (po_iaddr rfl rfl (by exact fc_slice_82_21_1) (by first | omega | (simp only [List.length_nil, List.length_cons, List.length_append, List.length_replicate, List.length_set, List.length_map, List.length_take, List.length_drop]; omega)) (by first | omega | (simp only [List.length_nil, List.length_cons, List.length_append, List.length_replicate, List.length_set, List.length_map, List.length_take, List.length_drop]; omega))) rfl rfl rfl ?_)
      refine ws (st_po (po_load_sl rfl (List.getElem?_eq_getElem (by first | omega | (simp only [List.length_nil, List.length_cons, List.length_append, List.length_replicate, List.length_set, List.length_map, List.length_take, List.length_drop]; omega))) (by exact fc_flat_21) (by rfl)) rfl rfl rfl ?_)
      refine ws (st_po (po_eq rfl rfl) rfl rfl rfl ?_)
      refine ws (st_po (po_pick_f rfl rfl) rfl rfl rfl ?_)
      refine s_nil ?_
      refine at_then_wp ?_
      first | refine r_cond_not rfl ?_ ?_ | refine r_cond_dec rfl ?_ ?_ | refine r_cond rfl ?_ ?_
      · intro h3
        refine r_seq ?_
        refine r_reg ?_
        refine ws (st_po (po_assign rfl) rfl rfl rfl ?_)
        refine s_nil ?_
        refine at_then_wp ?_
        refine r_ret ?_
        refine at_then_ret ?_
        refine at_ret1 rfl (rv_tmp rfl) ⟨_, ⟨by rw [atN, if_neg (by rw [hg]; exact fun h => h.2.2 h3)], rfl⟩, ?_⟩
        try dsimp only [List.cons_append, List.nil_append, GridS.l, GridS.p, MeshS.l, MeshS.lF, MeshS.p, RouteS.l, RouteS.p]
        exact ent
      · intro h3
        refine r_skip ?_
        refine at_then_wp ?_
        refine r_seq ?_
        refine r_reg ?_
        refine ws (st_po (po_move rfl) rfl rfl rfl ?_)
        refine ws (st_po (po_nil rfl) rfl rfl rfl ?_)
        refine ws (st_po (po_faddr rfl (by exact fc_field_84_2_2)) rfl rfl rfl ?_)
        refine ws (st_po (po_load rfl (by exact fc_flat_82) (by rfl)) rfl rfl rfl ?_)
        refine ws (st_po (po_move rfl) rfl rfl rfl ?_)
        refine ws (st_po (po_iaddr rfl rfl (by exact fc_slice_82_21_1) (by first | omega | (simp only [List.length_nil, List.length_cons, List.length_append, List.length_replicate, List.length_set, List.length_map, List.length_take, List.length_drop]; omega)) (by first | omega | (simp only [List.length_nil, List.length_cons, List.length_append, List.length_replicate, List.length_set, List.length_map, List.length_take, List.length_drop]; omega))) rfl rfl rfl ?_)
        refine ws (st_po (po_load_sl rfl (List.getElem?_eq_getElem (by first | omega | (simp only [List.length_nil, List.length_cons, List.length_append, List.length_replicate, List.length_set, List.length_map, List.length_take, List.length_drop]; omega))) (by exact fc_flat_21) (by rfl)) rfl rfl rfl ?_)
        refine ws (st_po (po_conv_w rfl (by exact fc_int_21_i32) (by exact fc_int_3_i64) (wrap_i64 _ (by omega) (by omega))) rfl rfl rfl ?_)
        refine ws (st_po (po_assign rfl) rfl rfl rfl ?_)
        refine s_nil ?_
        refine at_then_wp ?_
        refine r_ret ?_
        refine at_ret1 rfl (rv_tmp rfl) ⟨_, ⟨by rw [atN, if_pos (by rw [hg]; exact ⟨by omega, by omega, h3⟩), hg], rfl⟩, ?_⟩
        try dsimp only [List.cons_append, List.nil_append, GridS.l, GridS.p, MeshS.l, MeshS.lF, MeshS.p, RouteS.l, RouteS.p]
        exact ent
theorem route_near (r : RouteS) (c k : Int) (hc : 0 ≤ c ∧ c < r.dist.length) (hr : ∀ x ∈ r.dist, 0 ≤ x ∧ x ≤ 2147483647) (hk : 0 ≤ k) : Spec PP 96 #[r.p, .int .i64 c, .int .i64 k] r.l
    (fun v M => v = .bool (decide (k < gAt r.dist c)) ∧ M = ({ r with dist := if k < gAt r.dist c then r.dist.set c.toNat k else r.dist } : RouteS).l) := by
  have hg : gAt r.dist c = r.dist[c.toNat]'(by omega) := gAt_get (by omega)
  have hb := hr _ (List.getElem_mem (show c.toNat < r.dist.length by omega))
  refine spec_of (Go.Proofs.Tryz.func96) rfl rfl rfl (by exact fc_enters_96) ?_
  intro g F
  try dsimp only [List.cons_append, List.nil_append, GridS.l, GridS.p, MeshS.l, MeshS.lF, MeshS.p, RouteS.l, RouteS.p]
  refine r_seq ?_
  refine r_reg ?_
  refine ws (st_po (po_assign rfl) rfl rfl rfl ?_)
  refine s_nil ?_
  refine at_then_wp ?_
  refine r_seq ?_
  refine r_seq ?_
  refine r_reg ?_
  refine ws (st_po (po_move rfl) rfl rfl rfl ?_)
  refine ws (st_po (po_move rfl) rfl rfl rfl ?_)
  refine ws (st_po (po_nil rfl) rfl rfl rfl ?_)
  refine ws (st_po (po_faddr rfl (by exact fc_field_84_2_2)) rfl rfl rfl ?_)
  refine ws (st_po (po_load rfl (by exact fc_flat_82) (by rfl)) rfl rfl rfl ?_)
  refine ws (st_po (po_move rfl) rfl rfl rfl ?_)
  refine ws (st_po (po_iaddr rfl rfl (by exact fc_slice_82_21_1) (by first | omega | (simp only [List.length_nil, List.length_cons, List.length_append, List.length_replicate, List.length_set, List.length_map, List.length_take, List.length_drop]; omega)) (by first | omega | (simp only [List.length_nil, List.length_cons, List.length_append, List.length_replicate, List.length_set, List.length_map, List.length_take, List.length_drop]; omega))) rfl rfl rfl ?_)
  refine ws (st_po (po_load_sl rfl (List.getElem?_eq_getElem (by first | omega | (simp only [List.length_nil, List.length_cons, List.length_append, List.length_replicate, List.length_set, List.length_map, List.length_take, List.length_drop]; omega))) (by exact fc_flat_21) (by rfl)) rfl rfl rfl ?_)
  refine ws (st_po (po_conv_w rfl (by exact fc_int_21_i32) (by exact fc_int_3_i64) (wrap_i64 _ (by omega) (by omega))) rfl rfl rfl ?_)
  refine ws (st_po (po_ge rfl rfl) rfl rfl rfl ?_)
  refine s_nil ?_
  refine at_then_wp ?_
  first | refine r_cond_not rfl ?_ ?_ | refine r_cond_dec rfl ?_ ?_ | refine r_cond rfl ?_ ?_
  · intro h1
    refine r_seq ?_
    refine r_reg ?_
    refine ws (st_po (po_assign rfl) rfl rfl rfl ?_)
    refine s_nil ?_
    refine at_then_wp ?_
    refine r_ret ?_
    refine at_then_ret ?_
    refine at_ret1 rfl (rv_tmp rfl) ⟨_, ⟨by rw [decide_eq_false (by omega)], by rw [if_neg (by omega)]⟩, ?_⟩
    try dsimp only [List.cons_append, List.nil_append, GridS.l, GridS.p, MeshS.l, MeshS.lF, MeshS.p, RouteS.l, RouteS.p]
    exact ent
  · intro h1
    refine r_skip ?_
    refine at_then_wp ?_
    refine r_seq ?_
    refine r_reg ?_
    refine ws (st_po (po_move rfl) rfl rfl rfl ?_)
    refine ws (st_po (po_nil rfl) rfl rfl rfl ?_)
    refine ws (st_po (po_faddr rfl (by exact fc_field_84_2_2)) rfl rfl rfl ?_)
    refine ws (st_po (po_load rfl (by exact fc_flat_82) (by rfl)) rfl rfl rfl ?_)
    refine ws (st_po (po_move rfl) rfl rfl rfl ?_)
    refine ws (st_po (po_move rfl) rfl rfl rfl ?_)
    refine ws (st_po (po_conv_w rfl (by exact fc_int_3_i64) (by exact fc_int_21_i32) (wrap_i32 _ (by omega) (by omega))) rfl rfl rfl ?_)
    refine ws (st_po (po_iaddr rfl rfl (by exact fc_slice_82_21_1) (by first | omega | (simp only [List.length_nil, List.length_cons, List.length_append, List.length_replicate, List.length_set, List.length_map, List.length_take, List.length_drop]; omega)) (by first | omega | (simp only [List.length_nil, List.length_cons, List.length_append, List.length_replicate, List.length_set, List.length_map, List.length_take, List.length_drop]; omega))) rfl rfl rfl ?_)
    refine ws (st_so (so_store_sl rfl rfl (List.getElem?_eq_getElem (by first | omega | (simp only [List.length_nil, List.length_cons, List.length_append, List.length_replicate, List.length_set, List.length_map, List.length_take, List.length_drop]; omega))) (by exact fc_flat_21) (by decide) (by rfl) (by rfl)) rfl rfl ?_)
    refine s_nil ?_
    refine at_then_wp ?_
    refine r_seq ?_
    refine r_reg ?_
    refine ws (st_po (po_assign rfl) rfl rfl rfl ?_)
    refine s_nil ?_
    refine at_then_wp ?_
    refine r_ret ?_
    refine at_ret1 rfl (rv_tmp rfl) ⟨_, ⟨by rw [decide_eq_true (by omega)], by rw [if_pos (by omega)]⟩, ?_⟩
    try dsimp only [List.cons_append, List.nil_append, GridS.l, GridS.p, MeshS.l, MeshS.lF, MeshS.p, RouteS.l, RouteS.p]
    exact ent

structure FinderS where
  b : Nat
  m : MeshS
  count : Int
abbrev FinderS.p (f : FinderS) : Value := .pointer (some ⟨f.b, 0, none⟩)
/-- a finder, with or without a route -/
abbrev FinderS.l (f : FinderS) (kept : Value) : List HP := Blk f.b 98 [f.m.p, f.m.g.p, kept, .int .u64 f.count] :: f.m.l
theorem route_New (m : MeshS) : Spec PP 29 #[m.p, m.g.p] m.l (fun v M => ∃ f : FinderS, v = f.p ∧ M = f.l (.pointer none) ∧ f.m = m ∧ f.count = 0) := by
  refine spec_of (Go.Proofs.Tryz.func29) rfl rfl rfl (by exact fc_enters_29) ?_
  intro g F
  try dsimp only [List.cons_append, List.nil_append, GridS.l, GridS.p, MeshS.l, MeshS.lF, MeshS.p, RouteS.l, RouteS.p, FinderS.l, FinderS.p]
  refine r_seq ?_
  refine r_reg ?_
  refine ws (st_po (po_assign rfl) rfl rfl rfl ?_)
  refine s_nil ?_
  refine at_then_wp ?_
  refine r_seq ?_
  refine r_seq ?_
  refine r_reg ?_
  refine ws (st_po (po_move rfl) rfl rfl rfl ?_)
  refine ws (st_po (po_peq rfl rfl (by exact fc_ptr_63)) rfl rfl rfl ?_)
  refine ws (st_po (po_bf (po_move rfl) (rfl)) rfl rfl rfl ?_)
  refine ws (st_po (po_move rfl) rfl rfl rfl ?_)
  refine ws (st_po (po_peq rfl rfl (by exact fc_ptr_27)) rfl rfl rfl ?_)
  refine ws (st_po (po_pick_f rfl rfl) rfl rfl rfl ?_)
  refine s_nil ?_
  refine at_then_wp ?_
  refine r_cond_f rfl (rfl) ?_
  refine r_skip ?_
  refine at_then_wp ?_
  refine r_seq ?_
  refine r_reg ?_
  refine ws (st_po (po_move rfl) rfl rfl rfl ?_)
  refine ws (st_po (po_move rfl) rfl rfl rfl ?_)
  refine ws (st_po (po_build1 rfl (by exact fc_zero_98) (by exact fc_places_98_0_1) (by exact fc_info_98) rfl) rfl rfl rfl ?_)
  refine ws (st_xo (xo_box rfl rfl) rfl rfl rfl ?_)
  rintro _ _ ⟨b14, rfl, rfl⟩
  refine ws (st_po (po_assign rfl) rfl rfl rfl ?_)
  refine s_nil ?_
  refine at_then_wp ?_
  refine r_ret ?_
  refine at_ret1 rfl (rv_tmp rfl) ⟨_, ⟨⟨_, m, 0⟩, rfl, rfl, rfl, rfl⟩, ?_⟩
  try dsimp only [List.cons_append, List.nil_append, GridS.l, GridS.p, MeshS.l, MeshS.lF, MeshS.p, RouteS.l, RouteS.p, FinderS.l, FinderS.p]
  exact ent
end Hd
end
section
namespace Hd
/-- a step on the map within a sector is a step on the tile -/
theorem step_in {w h c k : Int} (hc : IsC w h c) (hk : 0 ≤ k ∧ k < 4) :
    (0 ≤ stepN w h c k ∧ sectorN w h (stepN w h c k) = sectorN w h c) ↔ 0 ≤ stepN (sizeN w h (sectorN w h c)).1 (sizeN w h (sectorN w h c)).2 (localN w h c) k := by
  have hz := size_of hc
  have hlx := local_xy hc
  have hll := local_lt hc
  have hxy := isc_xy hc
  have hsp := size_pos (sector_lt hc).1
  have hsl := size_le w h (sectorN w h c)
  have hlc : IsC (sizeN w h (sectorN w h c)).1 (sizeN w h (sectorN w h c)).2 (localN w h c) := ⟨⟨by omega, by omega⟩, hll⟩
  have h1 := step_ok hc hk.1 (by omega)
  have h2 := step_ok hlc hk.1 (by omega)
  rw [h2.1, hlx.1, hlx.2, hz.1, hz.2]
  have hd : (dx k = 0 ∨ dx k = 1 ∨ dx k = -1) ∧ (dy k = 0 ∨ dy k = 1 ∨ dy k = -1) := by
    have : k = 0 ∨ k = 1 ∨ k = 2 ∨ k = 3 := by omega
    rcases this with e | e | e | e <;> subst e <;> simp [dx, dy]
  constructor
  · rintro ⟨e1, e2⟩
    obtain ⟨m1, m2, m3⟩ := h1.2 e1
    have e3 := (sec_eq m1 hc).1 e2
    rw [m2, m3] at e3
    have := h1.1.1 e1
    omega
  · intro e
    have e1 := h1.1.2 (by omega)
    obtain ⟨m1, m2, m3⟩ := h1.2 e1
    refine ⟨e1, ?_⟩
    rw [sec_eq m1 hc, m2, m3]
    omega
theorem step_local {w h c k : Int} (hc : IsC w h c) (hk : 0 ≤ k ∧ k < 4) (e1 : 0 ≤ stepN w h c k) (e2 : sectorN w h (stepN w h c k) = sectorN w h c) :
    stepN (sizeN w h (sectorN w h c)).1 (sizeN w h (sectorN w h c)).2 (localN w h c) k = localN w h (stepN w h c k) := by
  have hl := (step_in hc hk).1 ⟨e1, e2⟩
  have hlx := local_xy hc
  have hll := local_lt hc
  have hxy := isc_xy hc
  have hz := size_of hc
  have hsp := size_pos (sector_lt hc).1
  have hsl := size_le w h (sectorN w h c)
  have hlc : IsC (sizeN w h (sectorN w h c)).1 (sizeN w h (sectorN w h c)).2 (localN w h c) := ⟨⟨by omega, by omega⟩, hll⟩
  have h1 := step_ok hc hk.1 (by omega)
  have h2 := step_ok hlc hk.1 (by omega)
  obtain ⟨m1, m2, m3⟩ := h1.2 e1
  obtain ⟨n1, n2, n3⟩ := h2.2 hl
  have e3 := (sec_eq m1 hc).1 e2
  have hr := h2.1.1 hl
  have a1 := isc_xy n1
  rw [n2, n3, hlx.1, hlx.2] at a1
  have hlm : localN w h (stepN w h c k) = (stepN w h c k) / w % 16 * (sizeN w h (sectorN w h c)).1 + (stepN w h c k) % w % 16 := by
    rw [localN, if_pos m1, e2]
  rw [hlm, a1.2.2, m2, m3]
  rw [m2, m3] at e3
  rw [hlx.1, hlx.2] at hr
  rw [hz.1, hz.2] at hr
  have q1 : c / w % 16 + dy k = (c / w + dy k) % 16 := by omega
  have q2 : c % w % 16 + dx k = (c % w + dx k) % 16 := by omega
  rw [q1, q2]
end Hd
end
section
namespace Hd
/-! ## distances among some of the cells -/
def Adj (w h c m : Int) : Prop := ∃ s : Int, (0 ≤ s ∧ s < 4) ∧ stepN w h c s = m
structure IsD (w h : Int) (C : List Int) (In : Int → Prop) (src : Int → Int → Prop) (d : Int → Int) : Prop where
  out : ∀ c, ¬ In c → d c = INF
  rng : ∀ c, d c = INF ∨ (0 ≤ d c ∧ d c < INF)
  low : ∀ c k, src c k → d c ≤ k
  rel : ∀ c m, In c → In m → Adj w h c m → d m < INF → d c ≤ d m + gAt C m
  tight : ∀ c, d c = INF ∨ src c (d c) ∨ ∃ m, In m ∧ Adj w h c m ∧ d m < INF ∧ d c = d m + gAt C m
variable {w h : Int} {C : List Int} {In : Int → Prop} {src : Int → Int → Prop} {d d' : Int → Int}
theorem IsD.mem (k : IsD w h C In src d) {c : Int} (h : d c < INF) : In c := by
  apply Classical.byContradiction
  intro hn
  have := k.out c hn
  omega
theorem isD_le (hC : ∀ c, In c → 1 ≤ gAt C c) (h1 : IsD w h C In src d) (h2 : IsD w h C In src d') : ∀ (n : Nat) (c : Int), d c < INF → d c ≤ n → d' c ≤ d c := by
  intro n
  induction n with
  | zero =>
    intro c hlt hle
    rcases h1.tight c with e | e | ⟨m, hm, ha, hml, e⟩
    · omega
    · exact h2.low c _ e
    · have := h1.rng m
      have := hC m hm
      omega
  | succ n ih =>
    intro c hlt hle
    rcases h1.tight c with e | e | ⟨m, hm, ha, hml, e⟩
    · omega
    · exact h2.low c _ e
    · have := hC m hm
      have := ih m hml (by omega)
      have := h2.rel c m (h1.mem hlt) hm ha (by omega)
      omega
theorem isD_uniq (hC : ∀ c, In c → 1 ≤ gAt C c) (h1 : IsD w h C In src d) (h2 : IsD w h C In src d') : ∀ c, d c = d' c := by
  intro c
  rcases h1.rng c with e | e
  · rcases h2.rng c with f | f
    · omega
    · have := isD_le hC h2 h1 (d' c).toNat c (by omega) (by omega); omega
  · have a := isD_le hC h1 h2 (d c).toNat c (by omega) (by omega)
    have b := isD_le hC h2 h1 (d' c).toNat c (by omega) (by omega)
    omega
/-- an open cell of a sector -/
def InS (w h : Int) (C : List Int) (i c : Int) : Prop := Opn C c ∧ IsC w h c ∧ sectorN w h c = i
instance (w h : Int) (C : List Int) (i c : Int) : Decidable (InS w h C i c) := by unfold InS; infer_instance
def onMap (w h : Int) (C : List Int) (i : Int) (dT : Int → Int) (c : Int) : Int := if InS w h C i c then dT (localN w h c) else INF
theorem opn_isC {g : GridS} (ok : GridOk g) {c : Int} (ho : Opn g.c c) : IsC g.w g.h c := ⟨ok.may, ho.1, by have := ho.2.1; have := ok.len; omega⟩
theorem local_opn {g : GridS} (ok : GridOk g) {i c : Int} (k : InS g.w g.h g.c i c) : Opn (tileN g i).c (localN g.w g.h c) := by
  obtain ⟨ho, hc, rfl⟩ := k
  have hl := local_lt hc
  have hs := (sector_lt hc).1
  refine ⟨hl.1, by rw [tile_len ok hs]; exact hl.2, ?_⟩
  rw [tile_at ok hs hl.1 hl.2, global_local hc]; exact ho.2.2
theorem local_cost {g : GridS} (ok : GridOk g) {i c : Int} (k : InS g.w g.h g.c i c) : gAt (tileN g i).c (localN g.w g.h c) = gAt g.c c := by
  obtain ⟨ho, hc, rfl⟩ := k
  have hl := local_lt hc
  rw [tile_at ok (sector_lt hc).1 hl.1 hl.2, global_local hc]
theorem opn_local {g : GridS} (ok : GridOk g) {i l : Int} (hi : IsS g.w g.h i) (k : Opn (tileN g i).c l) : InS g.w g.h g.c i (globalN g.w g.h i l) ∧ localN g.w g.h (globalN g.w g.h i l) = l := by
  have hl : l < (sizeN g.w g.h i).1 * (sizeN g.w g.h i).2 := by rw [← tile_len ok hi]; exact k.2.1
  have hc := (global_is hi k.1 hl).1
  refine ⟨⟨⟨hc.2.1, by have := ok.len; have := hc.2.2; omega, ?_⟩, hc, sector_global hi k.1 hl⟩, local_global hi k.1 hl⟩
  rw [← tile_at ok hi k.1 hl]; exact k.2.2
/-- from a tile to the map -/
theorem tile_map {g : GridS} (ok : GridOk g) {i : Int} (hi : IsS g.w g.h i) {src : Int → Int → Prop} {dT : Int → Int} (k : IsDist (tileN g i).w (tileN g i).h (tileN g i).c src dT) :
    IsD g.w g.h g.c (InS g.w g.h g.c i) (fun c x => InS g.w g.h g.c i c ∧ src (localN g.w g.h c) x) (onMap g.w g.h g.c i dT) := by
  have hv : ∀ c, InS g.w g.h g.c i c → onMap g.w g.h g.c i dT c = dT (localN g.w g.h c) := fun c hc => by unfold onMap; rw [if_pos hc]
  have hn : ∀ c, ¬ InS g.w g.h g.c i c → onMap g.w g.h g.c i dT c = INF := fun c hc => by unfold onMap; rw [if_neg hc]
  refine ⟨hn, fun c => ?_, fun c x hx => ?_, fun c m hc hm ha hl => ?_, fun c => ?_⟩
  · by_cases hc : InS g.w g.h g.c i c
    · rw [hv c hc]; exact k.rng _
    · exact .inl (hn c hc)
  · rw [hv c hx.1]; exact k.low _ _ hx.2
  · rw [hv m hm] at hl ⊢
    rw [hv c hc, ← local_cost ok hm]
    obtain ⟨s, hs, e⟩ := ha
    refine k.rel _ _ (local_opn ok hc) ⟨local_opn ok hm, s, hs, ?_⟩ hl
    have h1 : 0 ≤ stepN g.w g.h c s := by rw [e]; exact hm.2.1.2.1
    have h2 : sectorN g.w g.h (stepN g.w g.h c s) = sectorN g.w g.h c := by rw [e, hm.2.2, hc.2.2]
    have := step_local hc.2.1 hs h1 h2
    rw [hc.2.2, e] at this
    exact this
  · by_cases hc : InS g.w g.h g.c i c
    · rw [hv c hc]
      rcases k.tight (localN g.w g.h c) with e | e | ⟨m, ⟨hmo, s, hs, e1⟩, hml, e2⟩
      · exact .inl e
      · exact .inr (.inl ⟨hc, e⟩)
      · obtain ⟨hm, hml2⟩ := opn_local ok hi hmo
        refine .inr (.inr ⟨globalN g.w g.h i m, hm, ⟨s, hs, ?_⟩, by rw [hv _ hm, hml2]; exact hml, by rw [hv _ hm, hml2, ← local_cost ok hm, hml2]; exact e2⟩)
        have h3 := (step_in hc.2.1 hs).2 (by rw [hc.2.2]; show 0 ≤ stepN (tileN g i).w (tileN g i).h _ s; rw [e1]; exact hmo.1)
        have h4 := step_local hc.2.1 hs h3.1 h3.2
        have h5 : stepN (sizeN g.w g.h i).1 (sizeN g.w g.h i).2 (localN g.w g.h c) s = m := e1
        rw [hc.2.2, h5] at h4
        have h6 : IsC g.w g.h (stepN g.w g.h c s) := (opp hs h3.1).2 |> fun _ => ((step_ok hc.2.1 hs.1 (by omega)).2 h3.1).1
        have h7 := global_local h6
        rw [h3.2, hc.2.2, ← h4] at h7
        exact h7.symm
    · exact .inl (hn c hc)
/-! ## the graph of the sectors' border cells -/
abbrev FAR : Int := 2147483647
structure Bd (w h : Int) (C : List Int) (t : Int) (Nd : Int → Prop) (S : Int → Int → Int) (R : Int → Int) : Prop where
  rng : ∀ a, 0 ≤ R a ∧ R a ≤ FAR
  ini : Opn C t → ∀ a, Nd a → sectorN w h a = sectorN w h t → S t a < INF → R a ≤ S t a
  inn : ∀ b a, Nd b → Nd a → R b < FAR → sectorN w h a = sectorN w h b → a ≠ b → S b a < INF → R a ≤ R b + S b a
  ovr : ∀ b a, Nd b → Nd a → R b < FAR → sectorN w h a ≠ sectorN w h b → Adj w h b a → R a ≤ R b + gAt C b
  tight : ∀ a, R a = FAR ∨ Nd a ∧ ((Opn C t ∧ sectorN w h a = sectorN w h t ∧ S t a < INF ∧ R a = S t a) ∨
    ∃ b, Nd b ∧ R b < FAR ∧ ((sectorN w h a = sectorN w h b ∧ a ≠ b ∧ S b a < INF ∧ R a = R b + S b a) ∨ (sectorN w h a ≠ sectorN w h b ∧ Adj w h b a ∧ R a = R b + gAt C b)))
/-- a border cell -/
def Nd (w h : Int) (C : List Int) (c : Int) : Prop := (Opn C c ∧ IsC w h c) ∧ ∃ s : Int, (0 ≤ s ∧ s < 4) ∧ 0 ≤ stepN w h c s ∧ sectorN w h (stepN w h c s) ≠ sectorN w h c
def OpC (w h : Int) (C : List Int) (c : Int) : Prop := Opn C c ∧ IsC w h c
theorem adj_symm {w h c m : Int} (hm : 0 ≤ m) (k : Adj w h c m) : Adj w h m c := by
  obtain ⟨s, hs, e⟩ := k
  refine ⟨(s + 2) % 4, by omega, ?_⟩
  have := opp hs (show 0 ≤ stepN w h c s by omega)
  rw [e] at this; exact this.1
section
variable {t : Int} {S : Int → Int → Int} {R D : Int → Int}
def srcT (C : List Int) (t c k : Int) : Prop := Opn C t ∧ c = t ∧ k = 0
theorem sd_self {i y : Int} {f : Int → Int} (hy : InS w h C i y) (k : IsD w h C (InS w h C i) (fun c x => c = y ∧ x = 0) f) : f y = 0 := by
  have h1 := k.low y 0 ⟨rfl, rfl⟩
  have h2 := k.rng y
  have hI : INF = 1099511627776 := rfl
  omega
theorem in_full {i y : Int} {f : Int → Int} (hC : ∀ c, OpC w h C c → 1 ≤ gAt C c) (hD : IsD w h C (OpC w h C) (srcT C t) D) (hDb : ∀ c, D c < INF → D c < FAR) (k : IsD w h C (InS w h C i) (fun c x => c = y ∧ x = 0) f) (hy : D y < INF) :
    ∀ (n : Nat) (c : Int), f c < FAR → f c ≤ n → D c ≤ f c + D y := by
  intro n
  induction n using Nat.strongRecOn with
  | _ n ih =>
    intro c hlt hle
    have hI : INF = 1099511627776 := rfl
    have hF : FAR = 2147483647 := rfl
    rcases k.tight c with e | ⟨e1, e2⟩ | ⟨m, hm, ha, hml, e⟩
    · omega
    · rw [e1] at e2 ⊢; omega
    · have hcm := hC m ⟨hm.1, hm.2.1⟩
      have hfm := k.rng m
      have h1 := ih (f m).toNat (by omega) m (by omega) (by omega)
      have hc := k.mem (show f c < INF by omega)
      have hyb := hDb y hy
      have := hD.rel c m ⟨hc.1, hc.2.1⟩ ⟨hm.1, hm.2.1⟩ ha (by omega)
      omega
theorem exits (hC : ∀ c, OpC w h C c → 1 ≤ gAt C c) (hD : IsD w h C (OpC w h C) (srcT C t) D) (hS : ∀ y, Nd w h C y ∨ (y = t ∧ OpC w h C t) → IsD w h C (InS w h C (sectorN w h y)) (fun c x => c = y ∧ x = 0) (S y)) :
    ∀ (n : Nat) (c : Int), D c < INF → D c ≤ n → (OpC w h C t ∧ sectorN w h c = sectorN w h t ∧ S t c ≤ D c) ∨
      ∃ b b', Nd w h C b ∧ Nd w h C b' ∧ sectorN w h c = sectorN w h b ∧ S b c + D b ≤ D c ∧ D b' < INF ∧ D b = D b' + gAt C b' ∧ Adj w h b b' ∧ sectorN w h b' ≠ sectorN w h b := by
  intro n
  induction n using Nat.strongRecOn with
  | _ n ih =>
    intro c hlt hle
    have hc := hD.mem hlt
    have hr := hD.rng c
    rcases hD.tight c with e | ⟨e0, e1, e2⟩ | ⟨m, hm, ha, hml, e⟩
    · omega
    · refine .inl ⟨by rw [← e1]; exact hc, by rw [e1], ?_⟩
      rw [e1] at hc e2 ⊢
      have := sd_self ⟨hc.1, hc.2, rfl⟩ (hS t (.inr ⟨rfl, hc⟩)); omega
    · have hcm := hC m hm
      have hrm := hD.rng m
      by_cases hs : sectorN w h m = sectorN w h c
      · rcases ih (D m).toNat (by omega) m hml (by omega) with ⟨h1, h2, h3⟩ | ⟨b, b', h1, h1', h2, h3, h4, h5, h6, h7⟩
        · refine .inl ⟨h1, by rw [← hs]; exact h2, ?_⟩
          have := (hS t (.inr ⟨rfl, h1⟩)).rel c m ⟨hc.1, hc.2, by rw [← hs]; exact h2⟩ ⟨hm.1, hm.2, h2⟩ ha (by omega)
          omega
        · refine .inr ⟨b, b', h1, h1', by rw [← hs]; exact h2, ?_, h4, h5, h6, h7⟩
          have hb := hD.rng b
          have hb' := hD.rng b'
          have := (hS b (.inl h1)).rel c m ⟨hc.1, hc.2, by rw [← hs]; exact h2⟩ ⟨hm.1, hm.2, h2⟩ ha (by omega)
          omega
      · obtain ⟨s, hs4, hse⟩ := id ha
        have hn : Nd w h C c := ⟨hc, s, hs4, by rw [hse]; exact hm.2.2.1, by rw [hse]; exact hs⟩
        obtain ⟨s', hs4', hse'⟩ := adj_symm hm.2.2.1 ha
        have hn' : Nd w h C m := ⟨hm, s', hs4', by rw [hse']; exact hc.2.2.1, by rw [hse']; exact fun x => hs x.symm⟩
        refine .inr ⟨c, m, hn, hn', rfl, ?_, hml, e, ha, hs⟩
        have := sd_self ⟨hc.1, hc.2, rfl⟩ (hS c (.inl hn)); omega
theorem bd_le (hC : ∀ c, OpC w h C c → 1 ≤ gAt C c) (hD : IsD w h C (OpC w h C) (srcT C t) D) (hDb : ∀ c, D c < INF → D c < FAR) (hS : ∀ y, Nd w h C y ∨ (y = t ∧ OpC w h C t) → IsD w h C (InS w h C (sectorN w h y)) (fun c x => c = y ∧ x = 0) (S y))
    (hB : Bd w h C t (Nd w h C) S R) : ∀ (n : Nat) (a : Int), Nd w h C a → D a < INF → D a ≤ n → R a ≤ D a := by
  intro n
  induction n using Nat.strongRecOn with
  | _ n ih =>
    intro a ha hlt hle
    rcases exits hC hD hS n a hlt hle with ⟨h1, h2, h3⟩ | ⟨b, b', h1, h1', h2, h3, h4, h5, h6, h7⟩
    · have := hB.ini h1.1 a ha h2 (by omega); omega
    · have hcb := hC b' h1'.1
      have hrb := hD.rng b
      have hrb' := hD.rng b'
      have hSr := (hS b (.inl h1)).rng a
      have hDa := hDb a hlt
      have hF : FAR = 2147483647 := rfl
      have hI : INF = 1099511627776 := rfl
      have i1 := ih (D b').toNat (by omega) b' h1' h4 (by omega)
      have i2 := hB.ovr b' b h1' h1 (by omega) (fun x => h7 x.symm) (adj_symm h1'.1.2.2.1 h6)
      by_cases e : a = b
      · subst e; omega
      · have i3 := hB.inn b a h1 ha (by omega) h2 e (by omega)
        omega
theorem bd_ge (hC : ∀ c, OpC w h C c → 1 ≤ gAt C c) (hD : IsD w h C (OpC w h C) (srcT C t) D) (hDb : ∀ c, D c < INF → D c < FAR) (hS : ∀ y, Nd w h C y ∨ (y = t ∧ OpC w h C t) → IsD w h C (InS w h C (sectorN w h y)) (fun c x => c = y ∧ x = 0) (S y)) (ht : Opn C t → OpC w h C t)
    (hB : Bd w h C t (Nd w h C) S R) : ∀ (n : Nat) (a : Int), R a < FAR → R a ≤ n → D a ≤ R a := by
  intro n
  induction n using Nat.strongRecOn with
  | _ n ih =>
    intro a hlt hle
    have hF : FAR = 2147483647 := rfl
    have hI : INF = 1099511627776 := rfl
    have hra := hB.rng a
    rcases hB.tight a with e | ⟨ha, ⟨h1, h2, h3, h4⟩ | ⟨b, hb, hbl, ⟨h1, h2, h3, h4⟩ | ⟨h1, h2, h4⟩⟩⟩
    · omega
    · have hd := hD.low t 0 ⟨h1, rfl, rfl⟩
      have hdr := hD.rng t
      have := in_full hC hD hDb (hS t (.inr ⟨rfl, ht h1⟩)) (by omega) (S t a).toNat a (by omega) (by omega)
      omega
    · have hSr := (hS b (.inl hb)).rng a
      have hS1 : 1 ≤ S b a := by
        rcases (hS b (.inl hb)).tight a with e | ⟨e, _⟩ | ⟨m, hm, hma, hml, e⟩
        · omega
        · exact absurd e h2
        · have := hC m ⟨hm.1, hm.2.1⟩
          have := (hS b (.inl hb)).rng m
          omega
      have hrb := hB.rng b
      have i1 := ih (R b).toNat (by omega) b hbl (by omega)
      have := in_full hC hD hDb (hS b (.inl hb)) (by omega) (S b a).toNat a (by omega) (by omega)
      omega
    · have hcb := hC b hb.1
      have hrb := hB.rng b
      have i1 := ih (R b).toNat (by omega) b hbl (by omega)
      have := hD.rel a b ha.1 hb.1 (adj_symm ha.1.2.2.1 h2) (by omega)
      omega
/-- what the border's graph tells is what the whole map tells -/
theorem bd_eq (hC : ∀ c, OpC w h C c → 1 ≤ gAt C c) (hD : IsD w h C (OpC w h C) (srcT C t) D) (hDb : ∀ c, D c < INF → D c < FAR) (hS : ∀ y, Nd w h C y ∨ (y = t ∧ OpC w h C t) → IsD w h C (InS w h C (sectorN w h y)) (fun c x => c = y ∧ x = 0) (S y)) (ht : Opn C t → OpC w h C t)
    (hB : Bd w h C t (Nd w h C) S R) {a : Int} (ha : Nd w h C a) : (if R a = FAR then INF else R a) = D a := by
  have hF : FAR = 2147483647 := rfl
  have hI : INF = 1099511627776 := rfl
  have hr := hB.rng a
  by_cases e : R a = FAR
  · rw [if_pos e]
    rcases hD.rng a with e2 | e2
    · omega
    · have := bd_le hC hD hDb hS hB (D a).toNat a ha e2.2 (by omega)
      have := hDb a e2.2
      omega
  · rw [if_neg e]
    have i1 := bd_ge hC hD hDb hS ht hB (R a).toNat a (by omega) (by omega)
    have := hD.rng a
    have := bd_le hC hD hDb hS hB (D a).toNat a ha (by omega) (by omega)
    omega
end
end Hd
end
section
namespace Hd
/-! ## within a sector: what waits, what is known -/
def Why (w h : Int) (C : List Int) (t : Int) (kv : List (Int × Int)) (c k : Int) : Prop := (c = t ∧ k = 0) ∨ ∃ m km, kv.lookup m = some km ∧ Adj w h c m ∧ k = km + gAt C m
def unk (kv : List (Int × Int)) (n : Nat) : Nat := (List.range n).countP fun (i : Nat) => (kv.lookup (i : Int)).isNone
theorem lookup_snoc {kv : List (Int × Int)} {c d x : Int} (hn : kv.lookup c = none) : (kv ++ [(c, d)]).lookup x = if x = c then some d else kv.lookup x := by
  rw [List.lookup_append]
  by_cases e : x = c
  · subst e; simp [hn]
  · have : (x == c) = false := by simpa using e
    simp [List.lookup, this, e]
theorem countP_one (p q : Nat → Bool) (m : Nat) (hq : q m = true) (hp : p m = false) (hpq : ∀ x, x ≠ m → p x = q x) : ∀ n, m < n → (List.range n).countP p + 1 = (List.range n).countP q := by
  intro n
  induction n with
  | zero => intro h; omega
  | succ n ih =>
    intro h
    rw [List.range_succ, List.countP_append, List.countP_append]
    by_cases e : m = n
    · subst e
      have : (List.range m).countP p = (List.range m).countP q := by
        apply List.countP_congr
        intro x hx
        have := List.mem_range.1 hx
        rw [hpq x (by omega)]
      rw [this]
      simp [hq, hp]
    · have := ih (by omega)
      have h2 : [n].countP p = [n].countP q := by simp [hpq n (fun x => e x.symm)]
      rw [h2]; omega
theorem unk_snoc {kv : List (Int × Int)} {c d : Int} {n : Nat} (hn : kv.lookup c = none) (h0 : 0 ≤ c) (h1 : c < n) : unk (kv ++ [(c, d)]) n + 1 = unk kv n := by
  unfold unk
  refine countP_one _ _ c.toNat ?_ ?_ ?_ n (by omega)
  · rw [Int.toNat_of_nonneg h0, hn]; rfl
  · rw [Int.toNat_of_nonneg h0, lookup_snoc hn, if_pos rfl]; rfl
  · intro x hx
    rw [lookup_snoc hn, if_neg (by omega)]
theorem unk_le (kv : List (Int × Int)) (n : Nat) : unk kv n ≤ n := Nat.le_trans List.countP_le_length (by simp)

structure Dij (w h : Int) (C : List Int) (t : Int) (kv : List (Int × Int)) (hp : List Ent) (top cur : Int) (ks : Int) : Prop where
  kn : ∀ c k, kv.lookup c = some k → InS w h C (sectorN w h t) c ∧ 0 ≤ k ∧ k ≤ top ∧ Why w h C t kv c k
  wt : ∀ e, e ∈ hp → InS w h C (sectorN w h t) e.item ∧ top ≤ e.key ∧ e.key ≤ 255 * kv.length ∧ Why w h C t kv e.item e.key
  tp : 0 ≤ top ∧ top ≤ 255 * kv.length
  st : kv.lookup t = some 0 ∨ (⟨0, t⟩ ∈ hp ∧ kv.lookup t = none)
  rel : ∀ m km s n, kv.lookup m = some km → (0 ≤ s ∧ s < 4) → stepN w h m s = n → InS w h C (sectorN w h t) n → (m ≠ cur ∨ s < ks) → (∃ k, kv.lookup n = some k ∧ k ≤ km + gAt C m) ∨ ⟨km + gAt C m, n⟩ ∈ hp
  cnt : kv.length + unk kv C.length = C.length
  hl : (hp.length : Int) + 4 * (unk kv C.length : Int) + 4 - ks ≤ 4 * C.length + 1
section
variable {w h : Int} {C : List Int} {t : Int} {kv : List (Int × Int)} {hp : List Ent} {top cur ks : Int}
theorem Dij.start (ht : InS w h C (sectorN w h t) t) : Dij w h C t [] [⟨0, t⟩] 0 t 4 := by
  refine ⟨fun c k hk => (by cases hk), fun e he => ?_, ⟨by omega, by simp⟩, .inr ⟨by simp, rfl⟩, fun m km s n hk => (by cases hk), ?_, ?_⟩
  · rw [List.mem_singleton] at he
    subst he
    exact ⟨ht, Int.le_refl _, by simp, .inl ⟨rfl, rfl⟩⟩
  · unfold unk; simp
  · have := unk_le ([] : List (Int × Int)) C.length
    simp only [List.length_singleton]; omega
theorem Dij.old {e : Ent} {hp' : List Ent} (s : Dij w h C t kv hp top cur 4) (hpm : hp.Perm (e :: hp')) (hk : (kv.lookup e.item).isSome = true) : Dij w h C t kv hp' top cur 4 := by
  have hm : ∀ x, x ∈ hp ↔ x = e ∨ x ∈ hp' := fun x => by rw [hpm.mem_iff, List.mem_cons]
  obtain ⟨k, hk⟩ := Option.isSome_iff_exists.1 hk
  have hke := (s.kn _ _ hk).2.2.1
  have he := s.wt e ((hm e).2 (.inl rfl))
  refine ⟨s.kn, fun x hx => s.wt x ((hm x).2 (.inr hx)), s.tp, ?_, fun m km sd n h1 h2 h3 h4 h5 => ?_, s.cnt, ?_⟩
  · rcases s.st with a | ⟨a, a2⟩
    · exact .inl a
    · rcases (hm _).1 a with b | b
      · rw [← b] at hk; rw [hk] at a2; cases a2
      · exact .inr ⟨b, a2⟩
  · rcases s.rel m km sd n h1 h2 h3 h4 h5 with a | a
    · exact .inl a
    · rcases (hm _).1 a with b | b
      · left; rw [← b] at hk he; exact ⟨k, hk, by have := he.2.1; dsimp only at this; omega⟩
      · exact .inr b
  · have := s.hl
    have := hpm.length_eq
    simp only [List.length_cons] at this; omega
theorem Dij.new {e : Ent} {hp' : List Ent} (s : Dij w h C t kv hp top cur 4) (hpm : hp.Perm (e :: hp')) (hmin : ∀ x, x ∈ hp → e.key ≤ x.key) (hk : kv.lookup e.item = none) (hlen : (C.length : Int) = w * h) : Dij w h C t (kv ++ [(e.item, e.key)]) hp' e.key e.item 0 := by
  have hm : ∀ x, x ∈ hp ↔ x = e ∨ x ∈ hp' := fun x => by rw [hpm.mem_iff, List.mem_cons]
  have he := s.wt e ((hm e).2 (.inl rfl))
  have hlk : ∀ x, (kv ++ [(e.item, e.key)]).lookup x = if x = e.item then some e.key else kv.lookup x := fun x => lookup_snoc hk
  have hln : (kv ++ [(e.item, e.key)]).length = kv.length + 1 := by simp
  have hold : ∀ c k, kv.lookup c = some k → (kv ++ [(e.item, e.key)]).lookup c = some k := fun c k h1 => by
    rw [hlk, if_neg (fun x => by rw [x, hk] at h1; cases h1)]; exact h1
  have hwhy : ∀ c k, Why w h C t kv c k → Why w h C t (kv ++ [(e.item, e.key)]) c k := fun c k hw => by
    rcases hw with a | ⟨m, km, h1, h2, h3⟩
    · exact .inl a
    · exact .inr ⟨m, km, hold m km h1, h2, h3⟩
  have hu := unk_snoc (d := e.key) hk he.1.1.1 he.1.1.2.1
  have hs := s.tp
  refine ⟨fun c k h1 => ?_, fun x hx => ?_, ⟨by omega, by rw [hln]; omega⟩, ?_, fun m km sd n h1 h2 h3 h4 h5 => ?_, by rw [hln]; have := s.cnt; omega, ?_⟩
  · rw [hlk] at h1
    by_cases ec : c = e.item
    · rw [if_pos ec] at h1
      cases h1; subst ec
      exact ⟨he.1, by omega, Int.le_refl _, hwhy _ _ he.2.2.2⟩
    · rw [if_neg ec] at h1
      have := s.kn c k h1
      exact ⟨this.1, this.2.1, by omega, hwhy _ _ this.2.2.2⟩
  · have h1 := s.wt x ((hm x).2 (.inr hx))
    exact ⟨h1.1, hmin x ((hm x).2 (.inr hx)), by rw [hln]; omega, hwhy _ _ h1.2.2.2⟩
  · rcases s.st with a | ⟨a, a2⟩
    · exact .inl (hold _ _ a)
    · by_cases et : t = e.item
      · left
        have h0 := hmin _ a
        dsimp only at h0
        rw [hlk, if_pos et, show e.key = 0 by omega]
      · rcases (hm _).1 a with b | b
        · exact absurd (congrArg Ent.item b) et
        · exact .inr ⟨b, by rw [hlk, if_neg et]; exact a2⟩
  · rcases h5 with h5 | h5
    · rw [hlk, if_neg h5] at h1
      by_cases hmc : m ≠ cur ∨ sd < 4
      · rcases s.rel m km sd n h1 h2 h3 h4 hmc with ⟨k, a, b⟩ | a
        · exact .inl ⟨k, hold _ _ a, b⟩
        · rcases (hm _).1 a with b | b
          · left
            rw [← b]
            dsimp only
            rw [lookup_snoc (by rw [← b] at hk; exact hk), if_pos rfl]
            exact ⟨_, rfl, Int.le_refl _⟩
          · exact .inr b
      · omega
    · omega
  · have := s.hl
    have := hpm.length_eq
    simp only [List.length_cons] at this; omega
theorem Dij.skip {top : Int} (s : Dij w h C t kv hp top cur ks) (hn : ¬ InS w h C (sectorN w h t) (stepN w h cur ks)) : Dij w h C t kv hp top cur (ks + 1) := by
  refine ⟨s.kn, s.wt, s.tp, s.st, fun m km sd n h1 h2 h3 h4 h5 => ?_, s.cnt, by have := s.hl; omega⟩
  by_cases e : m = cur ∧ sd = ks
  · obtain ⟨rfl, rfl⟩ := e
    rw [h3] at hn; exact absurd h4 hn
  · exact s.rel m km sd n h1 h2 h3 h4 (by omega)
theorem Dij.push {hp' : List Ent} {km : Int} (hC : ∀ c, Opn C c → 1 ≤ gAt C c ∧ gAt C c ≤ 255) (s : Dij w h C t kv hp top cur ks) (hk0 : 0 ≤ ks ∧ ks < 4) (hk : kv.lookup cur = some km) (htop : top = km) (hb : km ≤ 255 * ((kv.length : Int) - 1)) (hn : InS w h C (sectorN w h t) (stepN w h cur ks)) (hpm : hp'.Perm (⟨km + gAt C cur, stepN w h cur ks⟩ :: hp)) : Dij w h C t kv hp' top cur (ks + 1) := by
  have hm : ∀ x, x ∈ hp' ↔ x = ⟨km + gAt C cur, stepN w h cur ks⟩ ∨ x ∈ hp := fun x => by rw [hpm.mem_iff, List.mem_cons]
  have hcur := s.kn _ _ hk
  have hcc := hC cur hcur.1.1
  refine ⟨s.kn, fun x hx => ?_, s.tp, ?_, fun m km' sd n h1 h2 h3 h4 h5 => ?_, s.cnt, ?_⟩
  · rcases (hm x).1 hx with e | e
    · subst e
      refine ⟨hn, by dsimp only; omega, by dsimp only; omega, .inr ⟨cur, km, hk, adj_symm hn.1.1 ⟨ks, hk0, rfl⟩, rfl⟩⟩
    · exact s.wt x e
  · rcases s.st with a | ⟨a, a2⟩
    · exact .inl a
    · exact .inr ⟨(hm _).2 (.inr a), a2⟩
  · by_cases e : m = cur ∧ sd = ks
    · obtain ⟨rfl, rfl⟩ := e
      rw [hk] at h1; cases h1
      right; rw [← h3]; exact (hm _).2 (.inl rfl)
    · rcases s.rel m km' sd n h1 h2 h3 h4 (by omega) with a | a
      · exact .inl a
      · exact .inr ((hm _).2 (.inr a))
  · have := s.hl
    have := hpm.length_eq
    simp only [List.length_cons] at this; omega
/-- what is known at the end -/
def kvF (kv : List (Int × Int)) (c : Int) : Int := (kv.lookup c).getD INF
theorem Dij.done (s : Dij w h C t kv [] top cur 4) (hC : ∀ c, Opn C c → 1 ≤ gAt C c) (hb : C.length ≤ 2^30) : IsD w h C (InS w h C (sectorN w h t)) (fun c k => c = t ∧ k = 0) (kvF kv) ∧ ∀ c k, kv.lookup c = some k → 0 ≤ k ∧ k < INF ∧ k ≤ 255 * C.length := by
  have hI : INF = 1099511627776 := rfl
  have hv : ∀ c k, kv.lookup c = some k → kvF kv c = k := fun c k e => by unfold kvF; rw [e]; rfl
  have hc := s.cnt
  have htp := s.tp
  have hr : ∀ c k, kv.lookup c = some k → 0 ≤ k ∧ k < INF ∧ k ≤ 255 * C.length := fun c k e => by have := s.kn c k e; omega
  refine ⟨⟨fun c hn => ?_, fun c => ?_, fun c k hs => ?_, fun c m hci hmi ⟨sd, hsd, e⟩ hl => ?_, fun c => ?_⟩, hr⟩
  · cases e : kv.lookup c with
    | none => unfold kvF; rw [e]; rfl
    | some k => exact absurd (s.kn c k e).1 hn
  · cases e : kv.lookup c with
    | none => left; unfold kvF; rw [e]; rfl
    | some k => right; rw [hv c k e]; exact ⟨(hr c k e).1, (hr c k e).2.1⟩
  · obtain ⟨rfl, rfl⟩ := hs
    rcases s.st with a | ⟨a, _⟩
    · rw [hv _ _ a]; exact Int.le_refl _
    · cases a
  · cases em : kv.lookup m with
    | none => rw [kvF, em] at hl; exact absurd hl (by simp)
    | some km =>
      rw [hv m km em]
      have hcm := adj_symm hmi.1.1 ⟨sd, hsd, e⟩
      obtain ⟨sd', hsd', e'⟩ := hcm
      rcases s.rel m km sd' c em hsd' e' hci (by omega) with ⟨k, a, b⟩ | a
      · rw [hv c k a]; exact b
      · cases a
  · cases e : kv.lookup c with
    | none => left; unfold kvF; rw [e]; rfl
    | some k =>
      rw [hv c k e]
      rcases (s.kn c k e).2.2.2 with a | ⟨m, km, h1, h2, h3⟩
      · exact .inr (.inl a)
      · exact .inr (.inr ⟨m, (s.kn m km h1).1, h2, by rw [hv m km h1]; exact (hr m km h1).2.1, by rw [hv m km h1]; exact h3⟩)
end
end Hd
end
section
namespace Hd
set_option maxRecDepth 100000
open Go

abbrev FinderS.lF (f : FinderS) (kept : Value) (F : HP) : List HP := Blk f.b 98 [f.m.p, f.m.g.p, kept, .int .u64 f.count] :: f.m.lF F
theorem cost_opn {g : GridS} (ok : GridOk g) {c : Int} (hc : IsC g.w g.h c) : costN g.c c = gAt g.c c := by
  have := ok.len
  unfold costN
  rw [if_pos ⟨hc.2.1, by have := hc.2.2; omega⟩]
theorem ins_iff {g : GridS} (ok : GridOk g) {t n : Int} : (0 ≤ n ∧ IsC g.w g.h n) ∧ sectorN g.w g.h n = sectorN g.w g.h t ∧ costN g.c n ≠ 255 ↔ InS g.w g.h g.c (sectorN g.w g.h t) n := by
  have := ok.len
  constructor
  · rintro ⟨⟨h1, h2⟩, h3, h4⟩
    rw [cost_opn ok h2] at h4
    exact ⟨⟨h1, by omega, h4⟩, h2, h3⟩
  · rintro ⟨h1, h2, h3⟩
    exact ⟨⟨h1.1, h2⟩, h3, by rw [cost_opn ok h2]; exact h1.2.2⟩
/-- what is popped next -/
structure Nxt (g : GridS) (t : Int) (o : Bool) (e : Ent) (l : List Ent) (kv : List (Int × Int)) (top cur : Int) : Prop where
  hp : HpL l
  ok : o = true → ∃ hp, Dij g.w g.h g.c t kv hp top cur 4 ∧ hp.Perm (e :: l) ∧ ∀ x, x ∈ hp → e.key ≤ x.key
  no : o = false → l = [] ∧ Dij g.w g.h g.c t kv [] top cur 4
def muW (kv : List (Int × Int)) (n : Nat) (o : Bool) (l : List Ent) : Nat := 5 * unk kv n + l.length + (if o = true then 1 else 0)
theorem muW_t (kv : List (Int × Int)) (n : Nat) {o : Bool} (l : List Ent) (h : o = true) : muW kv n o l = 5 * unk kv n + l.length + 1 := by unfold muW; rw [if_pos h]
theorem muW_f (kv : List (Int × Int)) (n : Nat) {o : Bool} (l : List Ent) (h : o = false) : muW kv n o l = 5 * unk kv n + l.length := by subst h; rfl
theorem leE_key {a b : Ent} (h : leE a b) : a.key ≤ b.key := by unfold leE lessE at h; omega
theorem route_within (f : FinderS) (kept : Value) (ok : GridOk f.m.g) (t : Int) (ht : IsC f.m.g.w f.m.g.h t) : Spec PP 94 #[f.p, .int .i64 t] (f.l kept)
    (fun v M => ∃ r kv, v = .map (some r) ∧ M = f.l kept ++ [MpH r kv] ∧ (¬ Opn f.m.g.c t → kv = []) ∧ (Opn f.m.g.c t → IsD f.m.g.w f.m.g.h f.m.g.c (InS f.m.g.w f.m.g.h f.m.g.c (sectorN f.m.g.w f.m.g.h t)) (fun c k => c = t ∧ k = 0) (kvF kv)) ∧ ∀ c k, kv.lookup c = some k → 0 ≤ k ∧ k < INF ∧ k ≤ 255 * f.m.g.c.length) := by
  have hcl := ok.len
  have hb := may_mul ok.may
  have hC : ∀ c, Opn f.m.g.c c → 1 ≤ gAt f.m.g.c c ∧ gAt f.m.g.c c ≤ 255 := fun c hc => by
    have hl : c.toNat < f.m.g.c.length := by have := hc.1; have := hc.2.1; omega
    rw [gAt_get hl]; exact ok.bt _ (List.getElem_mem hl)
  refine spec_of (Go.Proofs.Tryz.func94) rfl rfl rfl (by exact fc_enters_94) ?_
  intro g F
  try dsimp only [List.cons_append, List.nil_append, GridS.l, GridS.p, MeshS.l, MeshS.lF, MeshS.p, FinderS.l, FinderS.p, heapL, heapP, heapLF, FinderS.lF]
  refine r_seq ?_
  refine r_reg ?_
  refine ws (st_po (po_assign rfl) rfl rfl rfl ?_)
  refine s_nil ?_
  refine at_then_wp ?_
  refine r_seq ?_
  refine r_reg ?_
  refine ws (st_po (po_move rfl) rfl rfl rfl ?_)
  refine ws (st_po (po_nil rfl) rfl rfl rfl ?_)
  refine ws (st_po (po_faddr rfl (by exact fc_field_98_1_1)) rfl rfl rfl ?_)
  refine ws (st_po (po_load rfl (by exact fc_flat_27) (by rfl)) rfl rfl rfl ?_)
  refine ws (st_call (co_fn rfl rfl) (grid_Size f.m.g) (by infer_instance) rfl rfl rfl ?_)
  rintro v21 _ ⟨rfl, rfl⟩
  try dsimp only [List.cons_append, List.nil_append, GridS.l, GridS.p, MeshS.l, MeshS.lF, MeshS.p, FinderS.l, FinderS.p, heapL, heapP, heapLF, FinderS.lF]
  refine ws (st_po (po_move rfl) rfl rfl rfl ?_)
  refine ws (st_po (po_extract rfl rfl) rfl rfl rfl ?_)
  refine ws (st_po (po_extract rfl rfl) rfl rfl rfl ?_)
  refine ws (st_po (po_assign rfl) rfl rfl rfl ?_)
  refine ws (st_po (po_assign rfl) rfl rfl rfl ?_)
  refine s_nil ?_
  refine at_then_wp ?_
  refine r_seq ?_
  refine r_reg ?_
  refine ws (st_xo (xo_makemap) rfl rfl rfl ?_)
  rintro _ _ ⟨r24, rfl, rfl⟩
  refine ws (st_po (po_assign rfl) rfl rfl rfl ?_)
  refine s_nil ?_
  refine at_then_wp ?_
  refine r_seq ?_
  refine r_seq ?_
  refine r_reg ?_
  refine ws (st_po (po_move rfl) rfl rfl rfl ?_)
  refine ws (st_po (po_nil rfl) rfl rfl rfl ?_)
  refine ws (st_po (po_faddr rfl (by exact fc_field_98_1_1)) rfl rfl rfl ?_)
  refine ws (st_po (po_load rfl (by exact fc_flat_27) (by rfl)) rfl rfl rfl ?_)
  refine ws (st_po (po_move rfl) rfl rfl rfl ?_)
  refine ws (st_call (co_fn rfl rfl) (grid_Cost f.m.g t ok.bytes) (by infer_instance) rfl rfl rfl ?_)
  rintro v30 _ ⟨rfl, rfl⟩
  try dsimp only [List.cons_append, List.nil_append, GridS.l, GridS.p, MeshS.l, MeshS.lF, MeshS.p, FinderS.l, FinderS.p, heapL, heapP, heapLF, FinderS.lF]
  refine ws (st_po (po_eq rfl rfl) rfl rfl rfl ?_)
  refine s_nil ?_
  refine at_then_wp ?_
  first | refine r_cond_not rfl ?_ ?_ | refine r_cond_dec rfl ?_ ?_ | refine r_cond rfl ?_ ?_
  · intro hw
    refine r_seq ?_
    refine r_reg ?_
    refine ws (st_po (po_move rfl) rfl rfl rfl ?_)
    refine ws (st_po (po_assign rfl) rfl rfl rfl ?_)
    refine s_nil ?_
    refine at_then_wp ?_
    refine r_ret ?_
    refine at_then_ret ?_
    refine at_ret1 rfl (rv_tmp rfl) ⟨_, ⟨_, [], rfl, rfl, fun _ => rfl, fun ho => absurd hw (by rw [cost_opn ok ht]; exact ho.2.2), fun c k h => (by cases h)⟩, ?_⟩
    try dsimp only [List.cons_append, List.nil_append, GridS.l, GridS.p, MeshS.l, MeshS.lF, MeshS.p, FinderS.l, FinderS.p, heapL, heapP, heapLF, FinderS.lF]
    exact ent
  · intro hw
    have hto : Opn f.m.g.c t := ⟨ht.2.1, by have := ht.2.2; omega, by rw [← cost_opn ok ht]; exact hw⟩
    have hti : InS f.m.g.w f.m.g.h f.m.g.c (sectorN f.m.g.w f.m.g.h t) t := ⟨hto, ht, rfl⟩
    refine r_skip ?_
    refine at_then_wp ?_
    refine r_seq ?_
    refine r_reg ?_
    refine ws (st_call (co_fn rfl rfl) (heap_New) (by infer_instance) rfl rfl rfl ?_)
    rintro v33 _ ⟨hb0, rfl, rfl⟩
    try dsimp only [List.cons_append, List.nil_append, GridS.l, GridS.p, MeshS.l, MeshS.lF, MeshS.p, FinderS.l, FinderS.p, heapL, heapP, heapLF, FinderS.lF]
    refine ws (st_po (po_assign rfl) rfl rfl rfl ?_)
    refine s_nil ?_
    refine at_then_wp ?_
    refine r_seq ?_
    refine r_reg ?_
    refine ws (st_po (po_move rfl) rfl rfl rfl ?_)
    refine ws (st_po (po_move rfl) rfl rfl rfl ?_)
    refine ws (st_call (co_fn rfl rfl) (heap_Push hb0 (.slice none 0 0) [] 0 t (by simp) (fun j _ h => by simp at h)) (by infer_instance) rfl rfl rfl ?_)
    rintro v36 _ ⟨v1, l1, rfl, rfl, hp1, hl1⟩
    try dsimp only [List.cons_append, List.nil_append, GridS.l, GridS.p, MeshS.l, MeshS.lF, MeshS.p, FinderS.l, FinderS.p, heapL, heapP, heapLF, FinderS.lF]
    have hl1l := hl1.length_eq
    simp only [List.length_cons, List.length_nil] at hl1l
    refine s_nil ?_
    refine at_then_wp ?_
    refine r_seq ?_
    refine r_seq ?_
    refine r_reg ?_
    refine ws (st_po (po_move rfl) rfl rfl rfl ?_)
    refine ws (st_call (co_fn rfl rfl) (heap_Pop hb0 v1 l1 (by omega) (by omega) hp1) (by infer_instance) rfl rfl rfl ?_)
    rintro v39 _ ⟨e1, v2, l2, rfl, rfl, hpm, hp2, hmin⟩
    try dsimp only [List.cons_append, List.nil_append, GridS.l, GridS.p, MeshS.l, MeshS.lF, MeshS.p, FinderS.l, FinderS.p, heapL, heapP, heapLF, FinderS.lF]
    refine ws (st_po (po_move rfl) rfl rfl rfl ?_)
    refine ws (st_po (po_extract rfl rfl) rfl rfl rfl ?_)
    refine ws (st_po (po_extract rfl rfl) rfl rfl rfl ?_)
    refine ws (st_po (po_extract rfl rfl) rfl rfl rfl ?_)
    refine ws (st_po (po_assign rfl) rfl rfl rfl ?_)
    refine ws (st_po (po_assign rfl) rfl rfl rfl ?_)
    refine ws (st_po (po_assign rfl) rfl rfl rfl ?_)
    refine s_nil ?_
    refine at_then_wp ?_
    refine r_block ?_
    refine r_loop (S := Bool × Ent × Value × List Ent × List (Int × Int) × Int × Int) (fun ⟨o, e, v, l, kv, top, cur⟩ => [(9, .int .i64 e.key), (10, .int .i64 e.item), (11, .bool o)]) [(0, _), (1, _), (5, _), (6, _), (7, _), (8, _)] (fun ⟨o, e, v, l, kv, top, cur⟩ => Blk hb0 157 [v] :: Sl eH v l :: MpH r24 kv :: f.lF kept F) (fun ⟨o, e, v, l, kv, top, cur⟩ => Nxt f.m.g t o e l kv top cur) (fun ⟨o, e, v, l, kv, top, cur⟩ => muW kv f.m.g.c.length o l) ((true, e1, v2, l2, [], 0, t)) (And.intro rfl (And.intro rfl (And.intro rfl (And.intro rfl (And.intro rfl (And.intro rfl (trivial))))))) (And.intro rfl (And.intro rfl (And.intro rfl (trivial)))) (⟨hp2, fun _ => ⟨[⟨0, t⟩], Dij.start hti, hl1.symm.trans hpm, fun x hx => leE_key (hmin x (hl1.mem_iff.2 hx))⟩, fun h => by cases h⟩) ent ?_
    rintro ⟨o, e, v, l, kv, top, cur⟩ hI
    try dsimp only [List.cons_append, List.nil_append, GridS.l, GridS.p, MeshS.l, MeshS.lF, MeshS.p, FinderS.l, FinderS.p, heapL, heapP, heapLF, FinderS.lF]
    have hkl : (kv.length : Int) ≤ f.m.g.c.length := by
        rcases Bool.eq_false_or_eq_true o with e | e
        · obtain ⟨_, hd, _⟩ := hI.ok e; have := hd.cnt; omega
        · have := (hI.no e).2.cnt; omega
    refine r_seq ?_
    refine r_seq ?_
    refine r_reg ?_
    refine ws (st_po (po_move rfl) rfl rfl rfl ?_)
    refine s_nil ?_
    refine at_then_wp ?_
    first | refine r_cond_not rfl ?_ ?_ | refine r_cond_dec rfl ?_ ?_ | refine r_cond rfl ?_ ?_
    · intro ho
      obtain ⟨hp, hd, hpp, hmn⟩ := hI.ok ho
      have hmv := muW_t kv f.m.g.c.length l ho
      have hew := hd.wt e (hpp.mem_iff.2 (List.mem_cons_self ..))
      have hdt := hd.tp
      have hdl := hd.hl
      have hpl := hpp.length_eq
      simp only [List.length_cons] at hpl
      refine r_skip ?_
      refine at_then_wp ?_
      refine r_seq ?_
      refine r_block ?_
      refine r_seq ?_
      refine r_seq ?_
      refine r_reg ?_
      refine ws (st_po (po_move rfl) rfl rfl rfl ?_)
      refine ws (st_po (po_move rfl) rfl rfl rfl ?_)
      refine ws (st_po (po_lookup rfl rfl (by exact fc_map_129_3_3) (by exact fc_zint_3)) rfl rfl rfl ?_)
      refine ws (st_po (po_move rfl) rfl rfl rfl ?_)
      refine ws (st_po (po_extract rfl rfl) rfl rfl rfl ?_)
      refine ws (st_po (po_extract rfl rfl) rfl rfl rfl ?_)
      refine ws (st_po (po_assign rfl) rfl rfl rfl ?_)
      refine ws (st_po (po_assign rfl) rfl rfl rfl ?_)
      refine s_nil ?_
      refine at_then_wp ?_
      refine r_seq ?_
      refine r_reg ?_
      refine ws (st_po (po_move rfl) rfl rfl rfl ?_)
      refine s_nil ?_
      refine at_then_wp ?_
      first | refine r_cond_not rfl ?_ ?_ | refine r_cond_dec rfl ?_ ?_ | refine r_cond rfl ?_ ?_
      · intro hk
        have hd2 := hd.old hpp hk
        by_cases hl0 : l = []
        · skip
          subst hl0
          refine r_exit ?_
          refine at_then_exit ?_
          refine at_block_here ?_
          refine at_then_wp ?_
          refine r_reg ?_
          refine ws (st_po (po_move rfl) rfl rfl rfl ?_)
          refine ws (st_call (co_fn rfl rfl) (heap_Pop0 hb0 v) (by infer_instance) rfl rfl rfl ?_)
          rintro v46 _ ⟨rfl, rfl⟩
          try dsimp only [List.cons_append, List.nil_append, GridS.l, GridS.p, MeshS.l, MeshS.lF, MeshS.p, FinderS.l, FinderS.p, heapL, heapP, heapLF, FinderS.lF]
          refine ws (st_po (po_move rfl) rfl rfl rfl ?_)
          refine ws (st_po (po_extract rfl rfl) rfl rfl rfl ?_)
          refine ws (st_po (po_extract rfl rfl) rfl rfl rfl ?_)
          refine ws (st_po (po_extract rfl rfl) rfl rfl rfl ?_)
          refine ws (st_po (po_assign rfl) rfl rfl rfl ?_)
          refine ws (st_po (po_assign rfl) rfl rfl rfl ?_)
          refine ws (st_po (po_assign rfl) rfl rfl rfl ?_)
          refine s_nil ?_
          exact at_again ((false, ⟨0, 0⟩, v, [], kv, top, cur)) (And.intro rfl (And.intro rfl (And.intro rfl (trivial)))) (And.intro rfl (And.intro rfl (And.intro rfl (And.intro rfl (And.intro rfl (And.intro rfl (trivial))))))) (⟨hI.hp, fun h => (by cases h), fun _ => ⟨rfl, hd2⟩⟩) (by rw [hmv, muW_f kv _ _ rfl]; simp) ent
        · skip
          refine r_exit ?_
          refine at_then_exit ?_
          refine at_block_here ?_
          refine at_then_wp ?_
          refine r_reg ?_
          refine ws (st_po (po_move rfl) rfl rfl rfl ?_)
          refine ws (st_call (co_fn rfl rfl) (heap_Pop hb0 v l (by have := List.length_pos_iff.2 hl0; omega) (by omega) hI.hp) (by infer_instance) rfl rfl rfl ?_)
          rintro v46 _ ⟨e', v', l', rfl, rfl, hpm', hp', hmin'⟩
          try dsimp only [List.cons_append, List.nil_append, GridS.l, GridS.p, MeshS.l, MeshS.lF, MeshS.p, FinderS.l, FinderS.p, heapL, heapP, heapLF, FinderS.lF]
          refine ws (st_po (po_move rfl) rfl rfl rfl ?_)
          refine ws (st_po (po_extract rfl rfl) rfl rfl rfl ?_)
          refine ws (st_po (po_extract rfl rfl) rfl rfl rfl ?_)
          refine ws (st_po (po_extract rfl rfl) rfl rfl rfl ?_)
          refine ws (st_po (po_assign rfl) rfl rfl rfl ?_)
          refine ws (st_po (po_assign rfl) rfl rfl rfl ?_)
          refine ws (st_po (po_assign rfl) rfl rfl rfl ?_)
          refine s_nil ?_
          exact at_again ((true, e', v', l', kv, top, cur)) (And.intro rfl (And.intro rfl (And.intro rfl (trivial)))) (And.intro rfl (And.intro rfl (And.intro rfl (And.intro rfl (And.intro rfl (And.intro rfl (trivial))))))) (⟨hp', fun _ => ⟨l, hd2, hpm', fun x hx => leE_key (hmin' x hx)⟩, fun h => (by cases h)⟩) (by rw [hmv, muW_t kv _ _ rfl]; have := hpm'.length_eq; simp only [List.length_cons] at this; dsimp only; omega) ent
      · intro hk
        have hk2 : kv.lookup e.item = none := by simpa using hk
        have hd2 := hd.new hpp hmn hk2 hcl
        have hun := unk_snoc (d := e.key) hk2 hew.1.1.1 hew.1.1.2.1
        refine r_skip ?_
        refine at_then_wp ?_
        refine r_seq ?_
        refine r_reg ?_
        refine ws (st_po (po_move rfl) rfl rfl rfl ?_)
        refine ws (st_po (po_move rfl) rfl rfl rfl ?_)
        refine ws (st_po (po_move rfl) rfl rfl rfl ?_)
        refine ws (st_so (so_mapnew rfl rfl rfl (by exact fc_map_129_3_3) (by assumption)) rfl rfl ?_)
        refine s_nil ?_
        refine at_then_wp ?_
        refine r_seq ?_
        refine r_reg ?_
        refine ws (st_po (po_assign rfl) rfl rfl rfl ?_)
        refine s_nil ?_
        refine at_then_wp ?_
        refine r_block ?_
        refine r_loop (S := Nat × Value × List Ent) (fun ⟨s, v, l'⟩ => [(14, .int .i64 s)]) [(0, _), (1, _), (5, _), (6, _), (7, _), (8, _), (9, _), (10, _)] (fun ⟨s, v, l'⟩ => Blk hb0 157 [v] :: Sl eH v l' :: MpH r24 (kv ++ [(e.item, e.key)]) :: f.lF kept F) (fun ⟨s, v, l'⟩ => s ≤ 4 ∧ l'.length ≤ l.length + s ∧ HpL l' ∧ Dij f.m.g.w f.m.g.h f.m.g.c t (kv ++ [(e.item, e.key)]) l' e.key e.item s) (fun ⟨s, v, l'⟩ => 4 - s) ((0, v, l)) (And.intro rfl (And.intro rfl (And.intro rfl (And.intro rfl (And.intro rfl (And.intro rfl (And.intro rfl (And.intro rfl (trivial))))))))) (And.intro rfl (trivial)) (⟨by omega, by omega, hI.hp, hd2⟩) ent ?_
        rintro ⟨s, v, l'⟩ ⟨hs4, hll, hph, hd3⟩
        try dsimp only [List.cons_append, List.nil_append, GridS.l, GridS.p, MeshS.l, MeshS.lF, MeshS.p, FinderS.l, FinderS.p, heapL, heapP, heapLF, FinderS.lF]
        have hdl3 := hd3.hl
        refine r_seq ?_
        refine r_seq ?_
        refine r_reg ?_
        refine ws (st_po (po_move rfl) rfl rfl rfl ?_)
        refine ws (st_po (po_le rfl rfl) rfl rfl rfl ?_)
        refine s_nil ?_
        refine at_then_wp ?_
        first | refine r_cond_not rfl ?_ ?_ | refine r_cond_dec rfl ?_ ?_ | refine r_cond rfl ?_ ?_
        · intro hs
          refine r_skip ?_
          refine at_then_wp ?_
          refine r_seq ?_
          refine r_block ?_
          refine r_seq ?_
          refine r_reg ?_
          refine ws (st_po (po_move rfl) rfl rfl rfl ?_)
          refine ws (st_po (po_move rfl) rfl rfl rfl ?_)
          refine ws (st_po (po_move rfl) rfl rfl rfl ?_)
          refine ws (st_po (po_move rfl) rfl rfl rfl ?_)
          refine ws (st_call (co_fn rfl rfl) (where_Step f.m.g.w f.m.g.h e.item s) (by infer_instance) rfl rfl rfl ?_)
          rintro v68 _ ⟨rfl, rfl⟩
          try dsimp only [List.cons_append, List.nil_append, GridS.l, GridS.p, MeshS.l, MeshS.lF, MeshS.p, FinderS.l, FinderS.p, heapL, heapP, heapLF, FinderS.lF]
          refine ws (st_po (po_assign rfl) rfl rfl rfl ?_)
          refine s_nil ?_
          refine at_then_wp ?_
          refine r_seq ?_
          refine r_seq ?_
          refine r_reg ?_
          refine ws (st_po (po_move rfl) rfl rfl rfl ?_)
          refine ws (st_po (po_lt rfl rfl) rfl rfl rfl ?_)
          by_cases h1 : stepN f.m.g.w f.m.g.h e.item s < 0
          · skip
            refine ws (st_po (po_bt (po_move rfl) (decide_eq_true h1)) rfl rfl rfl ?_)
            refine ws (st_no rfl rfl rfl ?_)
            refine ws (st_no rfl rfl rfl ?_)
            refine ws (st_no rfl rfl rfl ?_)
            refine ws (st_no rfl rfl rfl ?_)
            refine ws (st_no rfl rfl rfl ?_)
            refine ws (st_no rfl rfl rfl ?_)
            refine ws (st_no rfl rfl rfl ?_)
            refine ws (st_no rfl rfl rfl ?_)
            refine ws (st_no rfl rfl rfl ?_)
            refine ws (st_po (po_pick_t rfl rfl) rfl rfl rfl ?_)
            refine ws (st_po (po_move rfl) rfl rfl rfl ?_)
            refine ws (st_no rfl rfl rfl ?_)
            refine ws (st_no rfl rfl rfl ?_)
            refine ws (st_no rfl rfl rfl ?_)
            refine ws (st_no rfl rfl rfl ?_)
            refine ws (st_no rfl rfl rfl ?_)
            refine ws (st_no rfl rfl rfl ?_)
            refine ws (st_no rfl rfl rfl ?_)
            refine ws (st_po (po_pick_t rfl rfl) rfl rfl rfl ?_)
            refine s_nil ?_
            refine at_then_wp ?_
            refine r_cond_t rfl rfl ?_
            refine r_exit ?_
            refine at_then_exit ?_
            refine at_block_here ?_
            refine at_then_wp ?_
            refine r_reg ?_
            refine ws (st_po (po_move rfl) rfl rfl rfl ?_)
            refine ws (st_po (po_add' rfl rfl (by omega) (by omega)) rfl rfl rfl ?_)
            refine ws (st_po (po_assign rfl) rfl rfl rfl ?_)
            refine s_nil ?_
            exact at_again ((s + 1, v, l')) (And.intro rfl (trivial)) (And.intro rfl (And.intro rfl (And.intro rfl (And.intro rfl (And.intro rfl (And.intro rfl (And.intro rfl (And.intro rfl (trivial))))))))) (⟨by omega, by dsimp only; omega, hph, hd3.skip (fun hn => by have := hn.1.1; omega)⟩) (by omega) ent
          · skip
            refine ws (st_po (po_bf (po_move rfl) (decide_eq_false h1)) rfl rfl rfl ?_)
            refine ws (st_po (po_move rfl) rfl rfl rfl ?_)
            refine ws (st_po (po_move rfl) rfl rfl rfl ?_)
            refine ws (st_po (po_move rfl) rfl rfl rfl ?_)
            refine ws (st_call (co_fn rfl rfl) (where_Sector f.m.g.w f.m.g.h (stepN f.m.g.w f.m.g.h e.item s)) (by infer_instance) rfl rfl rfl ?_)
            rintro v75 _ ⟨rfl, rfl⟩
            try dsimp only [List.cons_append, List.nil_append, GridS.l, GridS.p, MeshS.l, MeshS.lF, MeshS.p, FinderS.l, FinderS.p, heapL, heapP, heapLF, FinderS.lF]
            refine ws (st_po (po_move rfl) rfl rfl rfl ?_)
            refine ws (st_po (po_move rfl) rfl rfl rfl ?_)
            refine ws (st_po (po_move rfl) rfl rfl rfl ?_)
            refine ws (st_call (co_fn rfl rfl) (where_Sector f.m.g.w f.m.g.h t) (by infer_instance) rfl rfl rfl ?_)
            rintro v79 _ ⟨rfl, rfl⟩
            try dsimp only [List.cons_append, List.nil_append, GridS.l, GridS.p, MeshS.l, MeshS.lF, MeshS.p, FinderS.l, FinderS.p, heapL, heapP, heapLF, FinderS.lF]
            refine ws (st_po (po_ne rfl rfl) rfl rfl rfl ?_)
            refine ws (st_po (po_pick_f rfl rfl) rfl rfl rfl ?_)
            by_cases h2 : sectorN f.m.g.w f.m.g.h (stepN f.m.g.w f.m.g.h e.item s) ≠ sectorN f.m.g.w f.m.g.h t
            · skip
              refine ws (st_po (po_bt (po_move rfl) (decide_eq_true h2)) rfl rfl rfl ?_)
              refine ws (st_no rfl rfl rfl ?_)
              refine ws (st_no rfl rfl rfl ?_)
              refine ws (st_no rfl rfl rfl ?_)
              refine ws (st_no rfl rfl rfl ?_)
              refine ws (st_no rfl rfl rfl ?_)
              refine ws (st_no rfl rfl rfl ?_)
              refine ws (st_no rfl rfl rfl ?_)
              refine ws (st_po (po_pick_t rfl rfl) rfl rfl rfl ?_)
              refine s_nil ?_
              refine at_then_wp ?_
              refine r_cond_t rfl rfl ?_
              refine r_exit ?_
              refine at_then_exit ?_
              refine at_block_here ?_
              refine at_then_wp ?_
              refine r_reg ?_
              refine ws (st_po (po_move rfl) rfl rfl rfl ?_)
              refine ws (st_po (po_add' rfl rfl (by omega) (by omega)) rfl rfl rfl ?_)
              refine ws (st_po (po_assign rfl) rfl rfl rfl ?_)
              refine s_nil ?_
              exact at_again ((s + 1, v, l')) (And.intro rfl (trivial)) (And.intro rfl (And.intro rfl (And.intro rfl (And.intro rfl (And.intro rfl (And.intro rfl (And.intro rfl (And.intro rfl (trivial))))))))) (⟨by omega, by dsimp only; omega, hph, hd3.skip (fun hn => h2 hn.2.2)⟩) (by omega) ent
            · skip
              refine ws (st_po (po_bf (po_move rfl) (decide_eq_false h2)) rfl rfl rfl ?_)
              have hsc := ((step_ok hew.1.2.1 (show (0 : Int) ≤ s by omega) (by omega)).2 (by omega)).1
              refine ws (st_po (po_move rfl) rfl rfl rfl ?_)
              refine ws (st_po (po_nil rfl) rfl rfl rfl ?_)
              refine ws (st_po (po_faddr rfl (by exact fc_field_98_1_1)) rfl rfl rfl ?_)
              refine ws (st_po (po_load rfl (by exact fc_flat_27) (by rfl)) rfl rfl rfl ?_)
              refine ws (st_po (po_move rfl) rfl rfl rfl ?_)
              refine ws (st_call (co_fn rfl rfl) (grid_Cost f.m.g (stepN f.m.g.w f.m.g.h e.item s) ok.bytes) (by infer_instance) rfl rfl rfl ?_)
              rintro v88 _ ⟨rfl, rfl⟩
              try dsimp only [List.cons_append, List.nil_append, GridS.l, GridS.p, MeshS.l, MeshS.lF, MeshS.p, FinderS.l, FinderS.p, heapL, heapP, heapLF, FinderS.lF]
              refine ws (st_po (po_eq rfl rfl) rfl rfl rfl ?_)
              refine ws (st_po (po_pick_f rfl rfl) rfl rfl rfl ?_)
              refine s_nil ?_
              refine at_then_wp ?_
              first | refine r_cond_not rfl ?_ ?_ | refine r_cond_dec rfl ?_ ?_ | refine r_cond rfl ?_ ?_
              · intro h3
                refine r_exit ?_
                refine at_then_exit ?_
                refine at_block_here ?_
                refine at_then_wp ?_
                refine r_reg ?_
                refine ws (st_po (po_move rfl) rfl rfl rfl ?_)
                refine ws (st_po (po_add' rfl rfl (by omega) (by omega)) rfl rfl rfl ?_)
                refine ws (st_po (po_assign rfl) rfl rfl rfl ?_)
                refine s_nil ?_
                exact at_again ((s + 1, v, l')) (And.intro rfl (trivial)) (And.intro rfl (And.intro rfl (And.intro rfl (And.intro rfl (And.intro rfl (And.intro rfl (And.intro rfl (And.intro rfl (trivial))))))))) (⟨by omega, by dsimp only; omega, hph, hd3.skip (fun hn => hn.1.2.2 (by rw [← cost_opn ok hsc]; exact h3))⟩) (by omega) ent
              · intro h3
                have hni := (ins_iff ok (t := t)).1 ⟨⟨by omega, hsc⟩, Classical.not_not.1 h2, h3⟩
                have hce := cost_opn ok hew.1.2.1
                have hcr := hC _ hew.1.1
                refine r_skip ?_
                refine at_then_wp ?_
                refine r_reg ?_
                refine ws (st_po (po_move rfl) rfl rfl rfl ?_)
                refine ws (st_po (po_move rfl) rfl rfl rfl ?_)
                refine ws (st_po (po_move rfl) rfl rfl rfl ?_)
                refine ws (st_po (po_nil rfl) rfl rfl rfl ?_)
                refine ws (st_po (po_faddr rfl (by exact fc_field_98_1_1)) rfl rfl rfl ?_)
                refine ws (st_po (po_load rfl (by exact fc_flat_27) (by rfl)) rfl rfl rfl ?_)
                refine ws (st_po (po_move rfl) rfl rfl rfl ?_)
                refine ws (st_call (co_fn rfl rfl) (grid_Cost f.m.g e.item ok.bytes) (by infer_instance) rfl rfl rfl ?_)
                rintro v98 _ ⟨rfl, rfl⟩
                try dsimp only [List.cons_append, List.nil_append, GridS.l, GridS.p, MeshS.l, MeshS.lF, MeshS.p, FinderS.l, FinderS.p, heapL, heapP, heapLF, FinderS.lF]
                refine ws (st_po (po_add' rfl rfl (by omega) (by omega)) rfl rfl rfl ?_)
                refine ws (st_po (po_move rfl) rfl rfl rfl ?_)
                refine ws (st_call (co_fn rfl rfl) (heap_Push hb0 v l' (e.key + costN f.m.g.c e.item) (stepN f.m.g.w f.m.g.h e.item s) (by omega) hph) (by infer_instance) rfl rfl rfl ?_)
                rintro v101 _ ⟨v4, l4, rfl, rfl, hp4, hl4⟩
                try dsimp only [List.cons_append, List.nil_append, GridS.l, GridS.p, MeshS.l, MeshS.lF, MeshS.p, FinderS.l, FinderS.p, heapL, heapP, heapLF, FinderS.lF]
                refine s_nil ?_
                refine at_block_normal ?_
                refine at_then_wp ?_
                refine r_reg ?_
                refine ws (st_po (po_move rfl) rfl rfl rfl ?_)
                refine ws (st_po (po_add' rfl rfl (by omega) (by omega)) rfl rfl rfl ?_)
                refine ws (st_po (po_assign rfl) rfl rfl rfl ?_)
                refine s_nil ?_
                exact at_again ((s + 1, v4, l4)) (And.intro rfl (trivial)) (And.intro rfl (And.intro rfl (And.intro rfl (And.intro rfl (And.intro rfl (And.intro rfl (And.intro rfl (And.intro rfl (trivial))))))))) (⟨by omega, by have := hl4.length_eq; simp only [List.length_cons] at this; dsimp only; omega, hp4, hd3.push hC ⟨by omega, by omega⟩ (by rw [lookup_snoc hk2, if_pos rfl]) rfl (by simp; omega) hni (by rw [← hce]; exact hl4)⟩) (by omega) ent
        · intro hs
          have hd4 : Dij f.m.g.w f.m.g.h f.m.g.c t (kv ++ [(e.item, e.key)]) l' e.key e.item 4 := (by rw [show (4 : Int) = s by omega]; exact hd3)
          by_cases hl0 : l' = []
          · skip
            subst hl0
            refine r_exit ?_
            refine at_then_exit ?_
            refine at_then_exit ?_
            refine at_block_here ?_
            refine at_block_normal ?_
            refine at_then_wp ?_
            refine r_reg ?_
            refine ws (st_po (po_move rfl) rfl rfl rfl ?_)
            refine ws (st_call (co_fn rfl rfl) (heap_Pop0 hb0 v) (by infer_instance) rfl rfl rfl ?_)
            rintro v46 _ ⟨rfl, rfl⟩
            try dsimp only [List.cons_append, List.nil_append, GridS.l, GridS.p, MeshS.l, MeshS.lF, MeshS.p, FinderS.l, FinderS.p, heapL, heapP, heapLF, FinderS.lF]
            refine ws (st_po (po_move rfl) rfl rfl rfl ?_)
            refine ws (st_po (po_extract rfl rfl) rfl rfl rfl ?_)
            refine ws (st_po (po_extract rfl rfl) rfl rfl rfl ?_)
            refine ws (st_po (po_extract rfl rfl) rfl rfl rfl ?_)
            refine ws (st_po (po_assign rfl) rfl rfl rfl ?_)
            refine ws (st_po (po_assign rfl) rfl rfl rfl ?_)
            refine ws (st_po (po_assign rfl) rfl rfl rfl ?_)
            refine s_nil ?_
            exact at_again ((false, ⟨0, 0⟩, v, [], kv ++ [(e.item, e.key)], e.key, e.item)) (And.intro rfl (And.intro rfl (And.intro rfl (trivial)))) (And.intro rfl (And.intro rfl (And.intro rfl (And.intro rfl (And.intro rfl (And.intro rfl (trivial))))))) (⟨hph, fun h => (by cases h), fun _ => ⟨rfl, hd4⟩⟩) (by rw [hmv, muW_f _ _ _ rfl]; simp; omega) ent
          · skip
            refine r_exit ?_
            refine at_then_exit ?_
            refine at_then_exit ?_
            refine at_block_here ?_
            refine at_block_normal ?_
            refine at_then_wp ?_
            refine r_reg ?_
            refine ws (st_po (po_move rfl) rfl rfl rfl ?_)
            refine ws (st_call (co_fn rfl rfl) (heap_Pop hb0 v l' (by have := List.length_pos_iff.2 hl0; omega) (by omega) hph) (by infer_instance) rfl rfl rfl ?_)
            rintro v46 _ ⟨e', v', l5, rfl, rfl, hpm', hp', hmin'⟩
            try dsimp only [List.cons_append, List.nil_append, GridS.l, GridS.p, MeshS.l, MeshS.lF, MeshS.p, FinderS.l, FinderS.p, heapL, heapP, heapLF, FinderS.lF]
            refine ws (st_po (po_move rfl) rfl rfl rfl ?_)
            refine ws (st_po (po_extract rfl rfl) rfl rfl rfl ?_)
            refine ws (st_po (po_extract rfl rfl) rfl rfl rfl ?_)
            refine ws (st_po (po_extract rfl rfl) rfl rfl rfl ?_)
            refine ws (st_po (po_assign rfl) rfl rfl rfl ?_)
            refine ws (st_po (po_assign rfl) rfl rfl rfl ?_)
            refine ws (st_po (po_assign rfl) rfl rfl rfl ?_)
            refine s_nil ?_
            exact at_again ((true, e', v', l5, kv ++ [(e.item, e.key)], e.key, e.item)) (And.intro rfl (And.intro rfl (And.intro rfl (trivial)))) (And.intro rfl (And.intro rfl (And.intro rfl (And.intro rfl (And.intro rfl (And.intro rfl (trivial))))))) (⟨hp', fun _ => ⟨l', hd4, hpm', fun x hx => leE_key (hmin' x hx)⟩, fun h => (by cases h)⟩) (by rw [hmv, muW_t _ _ _ rfl]; have := hpm'.length_eq; simp only [List.length_cons] at this; dsimp only; omega) ent
    · intro ho
      obtain ⟨rfl, hd⟩ := hI.no (by simpa using ho)
      have hdn := hd.done (fun c hc => (hC c hc).1) (by omega)
      refine r_exit ?_
      refine at_then_exit ?_
      refine at_then_exit ?_
      refine at_block_here ?_
      refine at_then_wp ?_
      refine r_seq ?_
      refine r_reg ?_
      refine ws (st_po (po_move rfl) rfl rfl rfl ?_)
      refine ws (st_po (po_assign rfl) rfl rfl rfl ?_)
      refine s_nil ?_
      refine at_then_wp ?_
      refine r_ret ?_
      refine at_ret1 rfl (rv_tmp rfl) ⟨_, ⟨r24, kv, rfl, rfl, fun h => absurd hto h, fun _ => hdn.1, hdn.2⟩, ?_⟩
      try dsimp only [List.cons_append, List.nil_append, GridS.l, GridS.p, MeshS.l, MeshS.lF, MeshS.p, FinderS.l, FinderS.p, heapL, heapP, heapLF, FinderS.lF]
      exact ent
end Hd
end
section
namespace Hd
/-! ## the search over the border cells -/
/-- how far the cells of y's sector are from y, within it -/
noncomputable def sdN (g : GridS) (y : Int) : Int → Int := Classical.epsilon fun f => IsD g.w g.h g.c (InS g.w g.h g.c (sectorN g.w g.h y)) (fun c k => c = y ∧ k = 0) f
theorem sd_is {g : GridS} {y : Int} {f : Int → Int} (h : IsD g.w g.h g.c (InS g.w g.h g.c (sectorN g.w g.h y)) (fun c k => c = y ∧ k = 0) f) :
    IsD g.w g.h g.c (InS g.w g.h g.c (sectorN g.w g.h y)) (fun c k => c = y ∧ k = 0) (sdN g y) := Classical.epsilon_spec (p := fun f => IsD g.w g.h g.c (InS g.w g.h g.c (sectorN g.w g.h y)) (fun c k => c = y ∧ k = 0) f) ⟨f, h⟩
theorem opn_cost {g : GridS} (ok : GridOk g) {c : Int} (h : Opn g.c c) : 1 ≤ gAt g.c c ∧ gAt g.c c ≤ 255 := by
  have hl : c.toNat < g.c.length := by have := h.1; have := h.2.1; omega
  rw [gAt_get hl]; exact ok.bt _ (List.getElem_mem hl)
theorem sd_eq {g : GridS} (ok : GridOk g) {y : Int} {f : Int → Int} (h : IsD g.w g.h g.c (InS g.w g.h g.c (sectorN g.w g.h y)) (fun c k => c = y ∧ k = 0) f) (c : Int) : sdN g y c = f c :=
  isD_uniq (fun c hc => (opn_cost ok hc.1).1) (sd_is h) h c
theorem mem_nodes {g : GridS} (ok : GridOk g) {s a : Int} (hs : IsS g.w g.h s) : a ∈ nodesN g.w g.h g.c s ↔ Nd g.w g.h g.c a ∧ sectorN g.w g.h a = s := by
  unfold nodesN cellsN cellsTo
  rw [List.mem_filter, List.mem_map]
  have hz := secN_eq g.w g.h s
  unfold secN at hz
  constructor
  · rintro ⟨⟨l, hl, rfl⟩, ho⟩
    rw [List.mem_filter, List.mem_range] at hl
    have hll : (l : Int) < (sizeN g.w g.h s).1 * (sizeN g.w g.h s).2 := by have := hl.1; omega
    have hse := sector_global hs (by omega) hll
    have hc := (global_is hs (by omega) hll).1
    refine ⟨⟨⟨(open_iff ok).1 (of_decide_eq_true ho), hc⟩, ?_⟩, hse⟩
    have he := hl.2
    unfold edgeTo at he
    rw [List.any_eq_true] at he
    obtain ⟨j, hj, h0⟩ := he
    rw [List.mem_range] at hj
    have := over_ge.1 (of_decide_eq_true h0)
    exact ⟨j, by omega, this⟩
  · rintro ⟨⟨⟨ho, hc⟩, k, hk, h1⟩, rfl⟩
    have hl := local_lt hc
    refine ⟨⟨(localN g.w g.h a).toNat, List.mem_filter.2 ⟨List.mem_range.2 (by omega), ?_⟩, ?_⟩, decide_eq_true ((open_iff ok).2 ho)⟩
    · unfold edgeTo
      rw [List.any_eq_true]
      refine ⟨k.toNat, List.mem_range.2 (by omega), decide_eq_true ?_⟩
      rw [Int.toNat_of_nonneg hl.1, global_local hc, Int.toNat_of_nonneg hk.1]
      exact over_ge.2 h1
    · rw [Int.toNat_of_nonneg hl.1, global_local hc]
/-- an edge from a to b -/
def EdR (g : GridS) (b a c : Int) : Prop := Nd g.w g.h g.c a ∧ ((sectorN g.w g.h a = sectorN g.w g.h b ∧ a ≠ b ∧ sdN g b a < INF ∧ c = sdN g b a) ∨ (sectorN g.w g.h a ≠ sectorN g.w g.h b ∧ Adj g.w g.h b a ∧ c = gAt g.c b))
def undone (dn : List Int) (n : Nat) : Nat := (List.range n).countP fun (i : Nat) => decide ((i : Int) ∉ dn)
theorem undone_cons {dn : List Int} {c : Int} {n : Nat} (hn : c ∉ dn) (h0 : 0 ≤ c) (h1 : c < n) : undone (c :: dn) n + 1 = undone dn n := by
  unfold undone
  refine countP_one _ _ c.toNat ?_ ?_ ?_ n (by omega)
  · rw [Int.toNat_of_nonneg h0]; exact decide_eq_true hn
  · rw [Int.toNat_of_nonneg h0]; exact decide_eq_false (fun h => h (List.mem_cons_self ..))
  · intro x hx
    rw [decide_eq_decide, List.mem_cons, not_or]
    exact ⟨fun h => h.2, fun h => ⟨by omega, h⟩⟩
structure Sch (g : GridS) (t : Int) (R : List Int) (hp : List Ent) (dn : List Int) (top cur : Int) (todoI : List Int) (todo : List Edg) : Prop where
  rl : R.length = g.c.length
  rr : ∀ x ∈ R, 0 ≤ x ∧ x ≤ FAR
  hw : ∀ e, e ∈ hp → Nd g.w g.h g.c e.item ∧ top ≤ e.key ∧ gAt R e.item ≤ e.key ∧ e.key < FAR
  hn : hp.Nodup
  old : ∀ e, e ∈ hp → e.item ∈ dn → gAt R e.item < e.key
  cov : ∀ a, Nd g.w g.h g.c a → gAt R a < FAR → a ∈ dn ∨ ⟨gAt R a, a⟩ ∈ hp
  dnk : ∀ b, b ∈ dn → Nd g.w g.h g.c b ∧ gAt R b < FAR ∧ gAt R b ≤ top
  ini : Opn g.c t → ∀ a, Nd g.w g.h g.c a → sectorN g.w g.h a = sectorN g.w g.h t → sdN g t a < INF → gAt R a ≤ sdN g t a ∨ a ∈ todoI
  edg : ∀ b, b ∈ dn → ∀ a c, EdR g b a c → gAt R a ≤ gAt R b + c ∨ (b = cur ∧ ⟨a, c⟩ ∈ todo)
  tight : ∀ a, gAt R a < FAR → 0 ≤ a → a < R.length → Nd g.w g.h g.c a ∧ ((Opn g.c t ∧ sectorN g.w g.h a = sectorN g.w g.h t ∧ sdN g t a < INF ∧ gAt R a = sdN g t a) ∨ ∃ b c, b ∈ dn ∧ EdR g b a c ∧ gAt R a = gAt R b + c)
  cnt : dn.length + undone dn g.c.length = g.c.length
  hl : hp.length + todoI.length + todo.length ≤ 300 * (dn.length + 1)
section
variable {g : GridS} {t : Int} {R : List Int} {hp : List Ent} {dn : List Int} {top cur : Int} {todoI : List Int} {todo : List Edg}
theorem Sch.relax {hp' : List Ent} {a k : Int} (ok : GridOk g) (s : Sch g t R hp dn top cur todoI todo) (ha : Nd g.w g.h g.c a) (hk : k < gAt R a) (hk0 : 0 ≤ k) (htop : top ≤ k) (hpm : hp'.Perm (⟨k, a⟩ :: hp)) {todoI' : List Int} {todo' : List Edg} (hr : todoI'.length + todo'.length + hp'.length ≤ 300 * (dn.length + 1))
    (hI : ∀ j, j ∈ todoI → j ∈ todoI' ∨ (j = a ∧ k ≤ sdN g t a)) (hE : ∀ y, y ∈ todo → y ∈ todo' ∨ (y.to = a ∧ k ≤ gAt R cur + y.cost))
    (why : (Opn g.c t ∧ sectorN g.w g.h a = sectorN g.w g.h t ∧ sdN g t a < INF ∧ k = sdN g t a) ∨ ∃ b c, b ∈ dn ∧ EdR g b a c ∧ k = gAt R b + c) : Sch g t (R.set a.toNat k) hp' dn top cur todoI' todo' := by
  have hm : ∀ x, x ∈ hp' ↔ x = ⟨k, a⟩ ∨ x ∈ hp := fun x => by rw [hpm.mem_iff, List.mem_cons]
  have hal : 0 ≤ a ∧ a < R.length := ⟨ha.1.1.1, by have := ha.1.1.2.1; rw [s.rl]; exact this⟩
  have hg : ∀ j, 0 ≤ j → gAt (R.set a.toNat k) j = if j = a then k else gAt R j := fun j hj => gAt_set hal.1 hal.2 hj
  have hra : gAt R a ≤ FAR := by rw [gAt_get (by omega)]; exact (s.rr _ (List.getElem_mem _)).2
  have hle : ∀ j, 0 ≤ j → gAt (R.set a.toNat k) j ≤ gAt R j := fun j hj => by rw [hg j hj]; split <;> (try subst_vars) <;> omega
  have hnd : ∀ b, b ∈ dn → gAt (R.set a.toNat k) b = gAt R b := fun b hb => by
    have := s.dnk b hb
    rw [hg b this.1.1.1.1, if_neg]
    intro e; subst e; omega
  refine ⟨by simp [s.rl], fun x hx => ?_, fun e he => ?_, ?_, fun e he hd => ?_, fun j hj hjf => ?_, fun b hb => ?_, fun ho j hj1 hj2 hj3 => ?_, fun b hb j c hj => ?_, fun j hj h0 h1 => ?_, s.cnt, by omega⟩
  · rcases List.mem_or_eq_of_mem_set hx with e | e
    · exact s.rr x e
    · subst e; omega
  · rcases (hm e).1 he with e1 | e1
    · subst e1
      refine ⟨ha, htop, ?_, by dsimp only; omega⟩
      rw [hg _ hal.1, if_pos rfl]; exact Int.le_refl _
    · have := s.hw e e1
      have h2 := hle e.item this.1.1.1.1
      exact ⟨this.1, this.2.1, by omega, this.2.2.2⟩
  · rw [hpm.nodup_iff, List.nodup_cons]
    refine ⟨fun hin => ?_, s.hn⟩
    have := (s.hw _ hin).2.2.1
    dsimp only at this; omega
  · rw [hnd _ hd]
    rcases (hm e).1 he with e1 | e1
    · subst e1
      have := s.dnk _ hd
      dsimp only at this; omega
    · exact s.old e e1 hd
  · by_cases e : j = a
    · subst e; right; rw [hg _ hal.1, if_pos rfl]; exact (hm _).2 (.inl rfl)
    · have hgj := hg j hj.1.1.1
      rw [if_neg e] at hgj
      rw [hgj] at hjf ⊢
      rcases s.cov j hj hjf with h | h
      · exact .inl h
      · exact .inr ((hm _).2 (.inr h))
  · rw [hnd b hb]; exact s.dnk b hb
  · rcases s.ini ho j hj1 hj2 hj3 with h | h
    · have := hle j hj1.1.1.1; left; omega
    · rcases hI j h with h2 | ⟨rfl, h2⟩
      · exact .inr h2
      · left; rw [hg _ hal.1, if_pos rfl]; exact h2
  · rw [hnd b hb]
    rcases s.edg b hb j c hj with h | h
    · have := hle j hj.1.1.1.1; left; omega
    · rcases hE _ h.2 with h2 | ⟨h2, h3⟩
      · exact .inr ⟨h.1, h2⟩
      · left
        dsimp only at h2 h3
        rw [h2, hg _ hal.1, if_pos rfl, h.1]; exact h3
  · by_cases e : j = a
    · subst e
      rw [hg _ hal.1, if_pos rfl]
      refine ⟨ha, ?_⟩
      rcases why with h | ⟨b, c, hb, h2, h3⟩
      · exact .inl h
      · exact .inr ⟨b, c, hb, h2, by rw [hnd b hb]; exact h3⟩
    · have hgj := hg j h0
      rw [if_neg e] at hgj
      rw [hgj] at hj ⊢
      obtain ⟨h2, h3⟩ := s.tight j hj h0 (by simpa using h1)
      refine ⟨h2, ?_⟩
      rcases h3 with h | ⟨b, c, hb, h4, h5⟩
      · exact .inl h
      · exact .inr ⟨b, c, hb, h4, by rw [hnd b hb]; exact h5⟩
theorem Sch.dropI {a : Int} (s : Sch g t R hp dn top cur (a :: todoI) todo) (h : Opn g.c t → sdN g t a < INF → gAt R a ≤ sdN g t a) : Sch g t R hp dn top cur todoI todo :=
  ⟨s.rl, s.rr, s.hw, s.hn, s.old, s.cov, s.dnk, fun ho j h1 h2 h3 => (s.ini ho j h1 h2 h3).elim .inl (fun h4 => (List.mem_cons.1 h4).elim (fun e => .inl (by subst e; exact h ho h3)) .inr), s.edg, s.tight, s.cnt, by have := s.hl; simp only [List.length_cons] at this; omega⟩
theorem Sch.dropE {x : Edg} (s : Sch g t R hp dn top cur todoI (x :: todo)) (h : gAt R x.to ≤ gAt R cur + x.cost) : Sch g t R hp dn top cur todoI todo :=
  ⟨s.rl, s.rr, s.hw, s.hn, s.old, s.cov, s.dnk, s.ini, fun b hb a c hc => (s.edg b hb a c hc).elim .inl (fun ⟨h4, h5⟩ => (List.mem_cons.1 h5).elim (fun e => .inl (by subst h4; rw [← e] at h; exact h)) (fun e => .inr ⟨h4, e⟩)), s.tight, s.cnt, by have := s.hl; simp only [List.length_cons] at this; omega⟩
theorem Sch.popOld {e : Ent} {hp' : List Ent} (s : Sch g t R hp dn top cur [] []) (hpm : hp.Perm (e :: hp')) (hk : gAt R e.item < e.key) : Sch g t R hp' dn top cur [] [] := by
  have hm : ∀ x, x ∈ hp ↔ x = e ∨ x ∈ hp' := fun x => by rw [hpm.mem_iff, List.mem_cons]
  refine ⟨s.rl, s.rr, fun x hx => s.hw x ((hm x).2 (.inr hx)), (List.nodup_cons.1 (hpm.nodup_iff.1 s.hn)).2, fun x hx => s.old x ((hm x).2 (.inr hx)), fun a h1 h2 => ?_, s.dnk, s.ini, s.edg, s.tight, s.cnt, ?_⟩
  · rcases s.cov a h1 h2 with h | h
    · exact .inl h
    · rcases (hm _).1 h with e1 | e1
      · subst e1; dsimp only at hk; omega
      · exact .inr e1
  · have := s.hl
    have := hpm.length_eq
    simp only [List.length_cons, List.length_nil] at *; omega
theorem Sch.popNew {e : Ent} {hp' : List Ent} {es : List Edg} (s : Sch g t R hp dn top cur [] []) (hpm : hp.Perm (e :: hp')) (hmin : ∀ x, x ∈ hp → e.key ≤ x.key) (hk : ¬ gAt R e.item < e.key) (hes : es.length ≤ 300) (he : ∀ a c, EdR g e.item a c → ⟨a, c⟩ ∈ es) :
    Sch g t R hp' (e.item :: dn) e.key e.item [] es ∧ gAt R e.item = e.key ∧ undone (e.item :: dn) g.c.length + 1 = undone dn g.c.length := by
  have hm : ∀ x, x ∈ hp ↔ x = e ∨ x ∈ hp' := fun x => by rw [hpm.mem_iff, List.mem_cons]
  have h0 := s.hw e ((hm e).2 (.inl rfl))
  have hek : gAt R e.item = e.key := by omega
  have hnd : e.item ∉ dn := fun h => hk (s.old e ((hm e).2 (.inl rfl)) h)
  have hnod := List.nodup_cons.1 (hpm.nodup_iff.1 s.hn)
  have hu := undone_cons hnd h0.1.1.1.1 h0.1.1.1.2.1
  refine ⟨⟨s.rl, s.rr, fun x hx => ?_, hnod.2, fun x hx hd => ?_, fun a h1 h2 => ?_, fun b hb => ?_, s.ini, fun b hb a c hc => ?_, fun a h1 h2 h3 => ?_, by have := s.cnt; simp only [List.length_cons]; omega, ?_⟩, hek, hu⟩
  · have := s.hw x ((hm x).2 (.inr hx))
    exact ⟨this.1, hmin x ((hm x).2 (.inr hx)), this.2.2⟩
  · have hx1 := s.hw x ((hm x).2 (.inr hx))
    rcases List.mem_cons.1 hd with e1 | e1
    · rw [e1, hek]
      have := hmin x ((hm x).2 (.inr hx))
      rcases Int.lt_or_eq_of_le this with h | h
      · exact h
      · have : x = e := by cases x; cases e; simp_all
        rw [this] at hx; exact absurd hx hnod.1
    · exact s.old x ((hm x).2 (.inr hx)) e1
  · rcases s.cov a h1 h2 with h | h
    · exact .inl (List.mem_cons_of_mem _ h)
    · rcases (hm _).1 h with e1 | e1
      · left; rw [← e1]; exact List.mem_cons_self ..
      · exact .inr e1
  · rcases List.mem_cons.1 hb with e1 | e1
    · rw [e1]; exact ⟨h0.1, by omega, by omega⟩
    · have := s.dnk b e1
      exact ⟨this.1, this.2.1, by omega⟩
  · rcases List.mem_cons.1 hb with e1 | e1
    · rw [e1] at hc; exact .inr ⟨e1, he a c hc⟩
    · rcases s.edg b e1 a c hc with h | ⟨_, h⟩
      · exact .inl h
      · cases h
  · obtain ⟨h4, h5⟩ := s.tight a h1 h2 h3
    refine ⟨h4, ?_⟩
    rcases h5 with h | ⟨b, c, hb, h6, h7⟩
    · exact .inl h
    · exact .inr ⟨b, c, List.mem_cons_of_mem _ hb, h6, h7⟩
  · have := s.hl
    have := hpm.length_eq
    simp only [List.length_cons, List.length_nil] at *; omega
theorem Sch.start (t : Int) (todoI : List Int) (hl : todoI.length ≤ 256) (h : ∀ a, Nd g.w g.h g.c a → sectorN g.w g.h a = sectorN g.w g.h t → a ∈ todoI) : Sch g t (List.replicate g.c.length FAR) [] [] 0 0 todoI [] := by
  have hF : FAR = 2147483647 := rfl
  refine ⟨by simp, fun x hx => ?_, fun e he => (by cases he), .nil, fun e he => (by cases he), fun a ha hf => ?_, fun b hb => (by cases hb), fun _ a h1 h2 _ => .inr (h a h1 h2), fun b hb => (by cases hb), fun a hf h0 h1 => ?_, ?_, ?_⟩
  · rw [List.eq_of_mem_replicate hx]; omega
  · rw [gAt_get (by simp; have := ha.1.1.1; have := ha.1.1.2.1; omega)] at hf
    simp at hf
  · rw [gAt_get (by simp at h1 ⊢; omega)] at hf
    simp at hf
  · simp [undone]
  · simp; omega
theorem Sch.done (s : Sch g t R [] dn top cur [] []) : Bd g.w g.h g.c t (Nd g.w g.h g.c) (sdN g) (fun a => if 0 ≤ a ∧ a < R.length then gAt R a else FAR) := by
  have hF : FAR = 2147483647 := rfl
  have hin : ∀ a, Nd g.w g.h g.c a → (if 0 ≤ a ∧ a < R.length then gAt R a else FAR) = gAt R a := fun a ha => if_pos ⟨ha.1.1.1, by rw [s.rl]; exact ha.1.1.2.1⟩
  have hdn : ∀ a, Nd g.w g.h g.c a → gAt R a < FAR → a ∈ dn := fun a h1 h2 => (s.cov a h1 h2).elim id (fun h => by cases h)
  refine ⟨fun a => ?_, fun ho a h1 h2 h3 => ?_, fun b a h1 h2 h3 h4 h5 h6 => ?_, fun b a h1 h2 h3 h4 h5 => ?_, fun a => ?_⟩
  · split
    · rw [gAt_get (by omega)]; exact s.rr _ (List.getElem_mem _)
    · omega
  · rw [hin a h1]
    exact (s.ini ho a h1 h2 h3).elim id (fun h => by cases h)
  · rw [hin b h1] at h3 ⊢
    rw [hin a h2]
    exact (s.edg b (hdn b h1 h3) a _ ⟨h2, .inl ⟨h4, h5, h6, rfl⟩⟩).elim id (fun h => by cases h.2)
  · rw [hin b h1] at h3 ⊢
    rw [hin a h2]
    exact (s.edg b (hdn b h1 h3) a _ ⟨h2, .inr ⟨h4, h5, rfl⟩⟩).elim id (fun h => by cases h.2)
  · by_cases hr : 0 ≤ a ∧ a < R.length
    · rw [if_pos hr]
      by_cases hf : gAt R a < FAR
      · obtain ⟨h1, h2⟩ := s.tight a hf hr.1 hr.2
        refine .inr ⟨h1, ?_⟩
        rcases h2 with h | ⟨b, c, hb, ⟨_, h3⟩, h4⟩
        · exact .inl h
        · have hbn := s.dnk b hb
          refine .inr ⟨b, hbn.1, by rw [hin b hbn.1]; exact hbn.2.1, ?_⟩
          rw [hin b hbn.1]
          rcases h3 with ⟨h5, h6, h7, h8⟩ | ⟨h5, h6, h8⟩
          · exact .inl ⟨h5, h6, h7, by rw [← h8]; exact h4⟩
          · exact .inr ⟨h5, h6, by rw [← h8]; exact h4⟩
      · left
        rw [gAt_get (by omega)] at hf ⊢
        have := (s.rr _ (List.getElem_mem (show a.toNat < R.length by omega))).2
        omega
    · rw [if_neg hr]; exact .inl rfl
end
end Hd
end
section
namespace Hd
set_option maxRecDepth 100000
open Go

theorem one_src {g : GridS} {b c k : Int} (hb : InS g.w g.h g.c (sectorN g.w g.h b) b) : (InS g.w g.h g.c (sectorN g.w g.h b) c ∧ srcS (oneS (localN g.w g.h b)) (localN g.w g.h c) k) ↔ c = b ∧ k = 0 := by
  unfold srcS
  constructor
  · rintro ⟨hc, s, hs, h1, h2⟩
    rw [List.mem_singleton] at hs
    subst hs
    dsimp only at h1 h2
    have e1 := global_local hc.2.1
    have e2 := global_local hb.2.1
    rw [hc.2.2, ← h1, e2] at e1
    exact ⟨e1.symm, h2.symm⟩
  · rintro ⟨rfl, rfl⟩
    exact ⟨hb, _, List.mem_singleton.2 rfl, rfl, rfl⟩
theorem IsD.congr {w h : Int} {C : List Int} {In : Int → Prop} {src src' : Int → Int → Prop} {d : Int → Int} (k : IsD w h C In src d) (e : ∀ c x, src c x ↔ src' c x) : IsD w h C In src' d :=
  ⟨k.out, k.rng, fun c x s => k.low c x ((e c x).2 s), k.rel, fun c => by
    rcases k.tight c with a | a | a
    · exact .inl a
    · exact .inr (.inl ((e c _).1 a))
    · exact .inr (.inr a)⟩
theorem col_sd {g : GridS} (ok : GridOk g) {b : Int} (ho : Opn g.c b) {d : List Int} (hd : IsDist (tileN g (sectorN g.w g.h b)).w (tileN g (sectorN g.w g.h b)).h (tileN g (sectorN g.w g.h b)).c (srcS (oneS (localN g.w g.h b))) (dF d)) :
    IsD g.w g.h g.c (InS g.w g.h g.c (sectorN g.w g.h b)) (fun c k => c = b ∧ k = 0) (onMap g.w g.h g.c (sectorN g.w g.h b) (dF d)) := by
  have hc := opn_isC ok ho
  exact (tile_map ok (sector_lt hc).1 hd).congr fun c x => one_src ⟨ho, hc, rfl⟩
theorem onMap_g {g : GridS} (ok : GridOk g) {i a : Int} (hi : IsS g.w g.h i) (ha : InS g.w g.h g.c i a) {d : List Int} (hl : d.length = (tileN g i).c.length) : onMap g.w g.h g.c i (dF d) a = gAt d (localN g.w g.h a) := by
  have hlo := local_opn ok ha
  unfold onMap dF
  rw [if_pos ha, if_pos ⟨hlo.1, by rw [hl]; exact hlo.2.1⟩]
theorem mesh_sd {m : MeshS} (ok : MeshFr m) {y : Int} (hy : Nd m.g.w m.g.h m.g.c y) : IsD m.g.w m.g.h m.g.c (InS m.g.w m.g.h m.g.c (sectorN m.g.w m.g.h y)) (fun c k => c = y ∧ k = 0) (sdN m.g y) := by
  have hs := (sector_lt hy.1.2).1
  have hl := ok.iss.1 hs
  have hp := ok.part (sectorN m.g.w m.g.h y).toNat _ (List.getElem?_eq_getElem (by omega))
  rw [Int.toNat_of_nonneg hl.1] at hp
  have hm := (mem_nodes ok.g hs).2 ⟨hy, rfl⟩
  obtain ⟨j, hj, hje⟩ := List.getElem_of_mem hm
  obtain ⟨d, hdl, hd, -⟩ := hp.col j y (by rw [hp.nodes, List.getElem?_eq_getElem hj, hje])
  exact sd_is (col_sd ok.g hy.1.1 hd)
/-- what Into tells are the edges -/
theorem into_ed {m : MeshS} (ok : MeshFr m) {b : Int} (hb : Nd m.g.w m.g.h m.g.c b) {d : List Int} {es : List Edg} (hdl : d.length = (tileN m.g (sectorN m.g.w m.g.h b)).c.length)
    (hd : IsDist (tileN m.g (sectorN m.g.w m.g.h b)).w (tileN m.g (sectorN m.g.w m.g.h b)).h (tileN m.g (sectorN m.g.w m.g.h b)).c (srcS (oneS (localN m.g.w m.g.h b))) (dF d))
    (hes : ∀ e, e ∈ es ↔ InE m.g b d (nodesN m.g.w m.g.h m.g.c (sectorN m.g.w m.g.h b)).length e ∨ OverE m.g b 4 e) (a c : Int) : ⟨a, c⟩ ∈ es ↔ EdR m.g b a c := by
  have hs := (sector_lt hb.1.2).1
  have hdc := col_sd ok.g hb.1.1 hd
  have hse := sd_eq ok.g hdc
  rw [hes]
  have hval : ∀ a, InS m.g.w m.g.h m.g.c (sectorN m.g.w m.g.h b) a → sdN m.g b a = gAt d (localN m.g.w m.g.h a) := fun a ha => by rw [hse, onMap_g ok.g hs ha hdl]
  have hI : INF = 1099511627776 := rfl
  constructor
  · rintro (⟨i, hi, h1, h2, h3, h4⟩ | ⟨s, hs4, h1, h2, h3, h4, h5⟩)
    · have hm := List.mem_of_getElem? h1
      obtain ⟨hn, hse2⟩ := (mem_nodes ok.g hs).1 hm
      have hv := hval a ⟨hn.1.1, hn.1.2, hse2⟩
      have hr := hdc.rng a
      rw [← hse] at hr
      dsimp only at h2 h3 h4
      exact ⟨hn, .inl ⟨hse2, h2, by omega, by omega⟩⟩
    · obtain ⟨hn, -⟩ := (mem_nodes ok.g (sector_lt h2).1).1 h4
      refine ⟨hn, .inr ⟨h3, ⟨s, by omega, h1⟩, ?_⟩⟩
      dsimp only at h5
      rw [h5, cost_opn ok.g hb.1.2]
  · rintro ⟨hn, ⟨h1, h2, h3, h4⟩ | ⟨h1, ⟨s, hs4, h2⟩, h3⟩⟩
    · left
      have hv := hval a ⟨hn.1.1, hn.1.2, h1⟩
      obtain ⟨i, hi, he⟩ := List.getElem_of_mem ((mem_nodes ok.g hs).2 ⟨hn, h1⟩)
      exact ⟨i, hi, by rw [List.getElem?_eq_getElem hi, he], h2, by dsimp only; omega, by dsimp only; omega⟩
    · right
      refine ⟨s.toNat, by omega, by rw [Int.toNat_of_nonneg hs4.1]; exact h2, hn.1.2, h1, (mem_nodes ok.g (sector_lt hn.1.2).1).2 ⟨hn, rfl⟩, ?_⟩
      dsimp only
      rw [h3, cost_opn ok.g hb.1.2]

def muS (dn : List Int) (n : Nat) (o : Bool) (l : List Ent) : Nat := 301 * undone dn n + l.length + (if o = true then 1 else 0)
theorem muS_t (dn : List Int) (n : Nat) {o : Bool} (l : List Ent) (h : o = true) : muS dn n o l = 301 * undone dn n + l.length + 1 := by unfold muS; rw [if_pos h]
theorem muS_f (dn : List Int) (n : Nat) {o : Bool} (l : List Ent) (h : o = false) : muS dn n o l = 301 * undone dn n + l.length := by subst h; rfl
structure NxS (g : GridS) (t : Int) (R : List Int) (o : Bool) (e : Ent) (l : List Ent) (dn : List Int) (top cur : Int) : Prop where
  hp : HpL l
  rl : R.length = g.c.length
  rr : ∀ x ∈ R, 0 ≤ x ∧ x ≤ FAR
  hl : l.length ≤ 300 * (dn.length + 1)
  dl : dn.length ≤ g.c.length
  ok : o = true → ∃ hp, Sch g t R hp dn top cur [] [] ∧ hp.Perm (e :: l) ∧ ∀ x, x ∈ hp → e.key ≤ x.key
  no : o = false → l = [] ∧ Sch g t R [] dn top cur [] []
theorem NxS.mk_t {g : GridS} {t : Int} {R : List Int} {e : Ent} {l hp : List Ent} {dn : List Int} {top cur : Int} (s : Sch g t R hp dn top cur [] []) (hpm : hp.Perm (e :: l)) (hm : ∀ x ∈ hp, leE e x) (hl : HpL l) : NxS g t R true e l dn top cur :=
  ⟨hl, s.rl, s.rr, by have := s.hl; have := hpm.length_eq; simp only [List.length_cons, List.length_nil] at *; omega, by have := s.cnt; omega, fun _ => ⟨hp, s, hpm, fun x hx => leE_key (hm x hx)⟩, fun h => by cases h⟩
theorem NxS.mk_f {g : GridS} {t : Int} {R : List Int} {e : Ent} {dn : List Int} {top cur : Int} (s : Sch g t R [] dn top cur [] []) (hl : HpL []) : NxS g t R false e [] dn top cur :=
  ⟨hl, s.rl, s.rr, by simp, by have := s.cnt; omega, fun h => (by cases h), fun _ => ⟨rfl, s⟩⟩
theorem route_search (f : FinderS) (kept : Value) (ok : MeshFr f.m) (t : Int) (ht : IsC f.m.g.w f.m.g.h t) : Spec PP 63 #[f.p, .int .i64 t] (f.l kept)
    (fun v M => ∃ r : RouteS, v = r.p ∧ M = f.l kept ++ r.l ∧ r.goal = t ∧ r.ep = f.m.g.ep ∧ r.dist.length = f.m.g.c.length ∧ (∀ x ∈ r.dist, 0 ≤ x ∧ x ≤ FAR) ∧ (Opn f.m.g.c t → IsD f.m.g.w f.m.g.h f.m.g.c (InS f.m.g.w f.m.g.h f.m.g.c (sectorN f.m.g.w f.m.g.h t)) (fun c k => c = t ∧ k = 0) (sdN f.m.g t)) ∧
      Bd f.m.g.w f.m.g.h f.m.g.c t (Nd f.m.g.w f.m.g.h f.m.g.c) (sdN f.m.g) (fun a => if 0 ≤ a ∧ a < r.dist.length then gAt r.dist a else FAR)) := by
  have hcl := ok.g.len
  have hb := may_mul ok.g.may
  have hF : FAR = 2147483647 := rfl
  have hts := (sector_lt ht).1
  have hnl := nodes_len f.m.g.w f.m.g.h f.m.g.c (sectorN f.m.g.w f.m.g.h t)
  have hI : INF = 1099511627776 := rfl
  refine spec_of (Go.Proofs.Tryz.func63) rfl rfl rfl (by exact fc_enters_63) ?_
  intro g F
  try dsimp only [List.cons_append, List.nil_append, GridS.l, GridS.p, MeshS.l, MeshS.lF, MeshS.p, FinderS.l, FinderS.p, heapL, heapP, heapLF, FinderS.lF, RouteS.l, RouteS.p]
  refine r_seq ?_
  refine r_reg ?_
  refine ws (st_po (po_assign rfl) rfl rfl rfl ?_)
  refine s_nil ?_
  refine at_then_wp ?_
  refine r_seq ?_
  refine r_reg ?_
  refine ws (st_po (po_move rfl) rfl rfl rfl ?_)
  refine ws (st_po (po_nil rfl) rfl rfl rfl ?_)
  refine ws (st_po (po_faddr rfl (by exact fc_field_98_1_1)) rfl rfl rfl ?_)
  refine ws (st_po (po_load rfl (by exact fc_flat_27) (by rfl)) rfl rfl rfl ?_)
  refine ws (st_call (co_fn rfl rfl) (grid_Size f.m.g) (by infer_instance) rfl rfl rfl ?_)
  rintro v24 _ ⟨rfl, rfl⟩
  try dsimp only [List.cons_append, List.nil_append, GridS.l, GridS.p, MeshS.l, MeshS.lF, MeshS.p, FinderS.l, FinderS.p, heapL, heapP, heapLF, FinderS.lF, RouteS.l, RouteS.p]
  refine ws (st_po (po_move rfl) rfl rfl rfl ?_)
  refine ws (st_po (po_extract rfl rfl) rfl rfl rfl ?_)
  refine ws (st_po (po_extract rfl rfl) rfl rfl rfl ?_)
  refine ws (st_po (po_assign rfl) rfl rfl rfl ?_)
  refine ws (st_po (po_assign rfl) rfl rfl rfl ?_)
  refine s_nil ?_
  refine at_then_wp ?_
  refine r_seq ?_
  refine r_reg ?_
  refine ws (st_po (po_move rfl) rfl rfl rfl ?_)
  refine ws (st_po (po_move rfl) rfl rfl rfl ?_)
  refine ws (st_po (po_nil rfl) rfl rfl rfl ?_)
  refine ws (st_po (po_faddr rfl (by exact fc_field_98_1_1)) rfl rfl rfl ?_)
  refine ws (st_po (po_load rfl (by exact fc_flat_27) (by rfl)) rfl rfl rfl ?_)
  refine ws (st_call (co_fn rfl rfl) (grid_Epoch f.m.g) (by infer_instance) rfl rfl rfl ?_)
  rintro v32 _ ⟨rfl, rfl⟩
  try dsimp only [List.cons_append, List.nil_append, GridS.l, GridS.p, MeshS.l, MeshS.lF, MeshS.p, FinderS.l, FinderS.p, heapL, heapP, heapLF, FinderS.lF, RouteS.l, RouteS.p]
  refine ws (st_xo (xo_bslice eW [_] rfl (by exact fc_slice_82_21_1) (by exact fc_elem_21_1_4) ⟨rfl, rfl, trivial⟩ rfl (by decide)) rfl rfl rfl ?_)
  rintro v33 _ rfl
  refine ws (st_po (po_move rfl) rfl rfl rfl ?_)
  refine ws (st_po (po_move rfl) rfl rfl rfl ?_)
  refine ws (st_po (po_mul' rfl rfl (by omega) (by omega)) rfl rfl rfl ?_)
  refine ws (st_call (co_fn rfl rfl) (repeat_W v33 2147483647 (f.m.g.w * f.m.g.h) (by omega) (by omega)) (by infer_instance) rfl rfl rfl ?_)
  rintro v37 _ rfl
  try dsimp only [List.cons_append, List.nil_append, GridS.l, GridS.p, MeshS.l, MeshS.lF, MeshS.p, FinderS.l, FinderS.p, heapL, heapP, heapLF, FinderS.lF, RouteS.l, RouteS.p]
  refine ws (st_po (po_build1 rfl (by exact fc_zero_84) (by exact fc_places_84_0_1_2) (by exact fc_info_84) rfl) rfl rfl rfl ?_)
  refine ws (st_xo (xo_box rfl rfl) rfl rfl rfl ?_)
  rintro _ _ ⟨b39, rfl, rfl⟩
  refine ws (st_po (po_assign rfl) rfl rfl rfl ?_)
  refine s_nil ?_
  refine at_then_wp ?_
  refine r_seq ?_
  refine r_reg ?_
  refine ws (st_call (co_fn rfl rfl) (heap_New) (by infer_instance) rfl rfl rfl ?_)
  rintro v40 _ ⟨hb0, rfl, rfl⟩
  try dsimp only [List.cons_append, List.nil_append, GridS.l, GridS.p, MeshS.l, MeshS.lF, MeshS.p, FinderS.l, FinderS.p, heapL, heapP, heapLF, FinderS.lF, RouteS.l, RouteS.p]
  refine ws (st_po (po_assign rfl) rfl rfl rfl ?_)
  refine s_nil ?_
  refine at_then_wp ?_
  refine r_seq ?_
  refine r_reg ?_
  refine ws (st_po (po_move rfl) rfl rfl rfl ?_)
  refine ws (st_po (po_move rfl) rfl rfl rfl ?_)
  refine ws (st_call (co_fn rfl rfl) (route_within f kept ok.g t ht) (by infer_instance) rfl rfl rfl ?_)
  rintro v43 _ ⟨r, kv, rfl, rfl, hk0, hk1, hk2⟩
  try dsimp only [List.cons_append, List.nil_append, GridS.l, GridS.p, MeshS.l, MeshS.lF, MeshS.p, FinderS.l, FinderS.p, heapL, heapP, heapLF, FinderS.lF, RouteS.l, RouteS.p]
  have hsd : Opn f.m.g.c t → IsD f.m.g.w f.m.g.h f.m.g.c (InS f.m.g.w f.m.g.h f.m.g.c (sectorN f.m.g.w f.m.g.h t)) (fun c k => c = t ∧ k = 0) (sdN f.m.g t) := fun h => sd_is (hk1 h)
  rw [show (f.m.g.w * f.m.g.h).toNat = f.m.g.c.length by omega]
  refine ws (st_po (po_assign rfl) rfl rfl rfl ?_)
  refine s_nil ?_
  refine at_then_wp ?_
  refine r_seq ?_
  refine r_seq ?_
  refine r_ord [] _ [(0, 1), (1, 1), (2, 1), (3, 0), (4, 1), (5, 1), (6, 1), (10, 1), (7, 2), (8, 2), (9, 2)] fc_mixed (by kernel_rfl) (fun _ h => h) ?_
  refine o_fr rfl (po_move rfl) rfl rfl rfl ?_
  refine o_fr rfl (po_nil rfl) rfl rfl rfl ?_
  refine o_fr rfl (po_faddr rfl (by exact fc_field_98_0_0)) rfl rfl rfl ?_
  refine o_rd rfl (po_load rfl (by exact fc_flat_63) (by rfl)) (by first | exact fun _ h => h | exact ent) rfl rfl rfl ?_
  refine o_fr rfl (po_move rfl) rfl rfl rfl ?_
  refine o_fr rfl (po_move rfl) rfl rfl rfl ?_
  refine o_fr rfl (po_move rfl) rfl rfl rfl ?_
  refine o_fr rfl (po_move rfl) rfl rfl rfl ?_
  refine o_st rfl (st_call (co_fn rfl rfl) (where_Sector f.m.g.w f.m.g.h t) (by infer_instance) rfl rfl rfl ?_)
  rintro v51 _ ⟨rfl, rfl⟩
  try dsimp only [List.cons_append, List.nil_append, GridS.l, GridS.p, MeshS.l, MeshS.lF, MeshS.p, FinderS.l, FinderS.p, heapL, heapP, heapLF, FinderS.lF, RouteS.l, RouteS.p]
  refine ⟨fun _ => (by first | exact fun _ h => h | exact ent), ?_⟩
  refine o_st rfl (st_call (co_fn rfl rfl) (mesh_Nodes f.m ok (sectorN f.m.g.w f.m.g.h t) hts) (by infer_instance) rfl rfl rfl ?_)
  rintro v52 _ rfl
  try dsimp only [List.cons_append, List.nil_append, GridS.l, GridS.p, MeshS.l, MeshS.lF, MeshS.p, FinderS.l, FinderS.p, heapL, heapP, heapLF, FinderS.lF, RouteS.l, RouteS.p]
  refine ⟨fun _ => (by first | exact fun _ h => h | exact ent), ?_⟩
  refine o_st rfl (st_po (po_len rfl (by exact fc_slice_35_3_1)) rfl rfl rfl ?_)
  refine ⟨fun _ => (by first | exact fun _ h => h | exact ent), ?_⟩
  refine o_nil ?_
  refine at_then_wp ?_
  refine r_block ?_
  refine r_loop (S := Nat × Value × List Ent × List Int) (fun ⟨k, v, l, R⟩ => [(54, .int .i64 k)]) [(0, _), (7, _), (8, _), (9, _), (52, _), (53, _)] (fun ⟨k, v, l, R⟩ => Blk hb0 157 [v] :: Sl eH v l :: MpH r kv :: Sl eI v52 (nodesN f.m.g.w f.m.g.h f.m.g.c (sectorN f.m.g.w f.m.g.h t)) :: Blk b39 84 [.int .i64 t, .int .i64 f.m.g.ep, v37] :: Sl eW v37 R :: f.lF kept F) (fun ⟨k, v, l, R⟩ => k ≤ (nodesN f.m.g.w f.m.g.h f.m.g.c (sectorN f.m.g.w f.m.g.h t)).length ∧ HpL l ∧ Sch f.m.g t R l [] 0 0 ((nodesN f.m.g.w f.m.g.h f.m.g.c (sectorN f.m.g.w f.m.g.h t)).drop k) []) (fun ⟨k, v, l, R⟩ => (nodesN f.m.g.w f.m.g.h f.m.g.c (sectorN f.m.g.w f.m.g.h t)).length - k) ((0, .slice none 0 0, [], List.replicate f.m.g.c.length FAR)) (And.intro rfl (And.intro rfl (And.intro rfl (And.intro rfl (And.intro rfl (And.intro rfl (trivial))))))) (And.intro rfl (trivial)) (⟨by omega, fun j _ h => by simp at h, Sch.start t _ hnl (fun a h1 h2 => (mem_nodes ok.g hts).2 ⟨h1, h2⟩)⟩) ent ?_
  rintro ⟨k, v, l, R⟩ ⟨hk, hph, hs⟩
  try dsimp only [List.cons_append, List.nil_append, GridS.l, GridS.p, MeshS.l, MeshS.lF, MeshS.p, FinderS.l, FinderS.p, heapL, heapP, heapLF, FinderS.lF, RouteS.l, RouteS.p]
  refine r_seq ?_
  refine r_reg ?_
  refine ws (st_po (po_lt rfl rfl) rfl rfl rfl ?_)
  refine s_nil ?_
  refine at_then_wp ?_
  refine r_seq ?_
  first | refine r_cond_not rfl ?_ ?_ | refine r_cond_dec rfl ?_ ?_ | refine r_cond rfl ?_ ?_
  · intro hlt
    have hkl : k < (nodesN f.m.g.w f.m.g.h f.m.g.c (sectorN f.m.g.w f.m.g.h t)).length := by omega
    obtain ⟨a, hae⟩ : ∃ a, (nodesN f.m.g.w f.m.g.h f.m.g.c (sectorN f.m.g.w f.m.g.h t))[(k : Int).toNat]'(by omega) = a := ⟨_, rfl⟩
    have hza : (nodesN f.m.g.w f.m.g.h f.m.g.c (sectorN f.m.g.w f.m.g.h t))[k] = a := hae
    have hmem : a ∈ nodesN f.m.g.w f.m.g.h f.m.g.c (sectorN f.m.g.w f.m.g.h t) := hza ▸ List.getElem_mem hkl
    obtain ⟨han, has⟩ := (mem_nodes ok.g hts).1 hmem
    rw [List.drop_eq_getElem_cons hkl, hza] at hs
    have hah : 0 ≤ a ∧ a < R.length := ⟨han.1.1.1, by have := han.1.1.2.1; rw [hs.rl]; exact this⟩
    have hal := hs.hl
    simp only [List.length_cons, List.length_nil] at hal
    by_cases hsm : (kv.lookup a).isSome = true
    · skip
      obtain ⟨x, hx⟩ := Option.isSome_iff_exists.1 hsm
      have hto : Opn f.m.g.c t := Classical.byContradiction fun h => by rw [hk0 h] at hx; cases hx
      have hsdx : sdN f.m.g t a = x := by rw [sd_eq ok.g (hk1 hto), kvF, hx]; rfl
      have hxb := hk2 a x hx
      refine r_skip ?_
      refine at_then_wp ?_
      refine r_seq ?_
      refine r_block ?_
      refine r_seq ?_
      refine r_reg ?_
      refine ws (st_po (po_iaddr rfl rfl (by exact fc_slice_35_3_1) (by first | omega | (simp only [List.length_nil, List.length_cons, List.length_append, List.length_replicate, List.length_set, List.length_map, List.length_take, List.length_drop]; omega)) (by first | omega | (simp only [List.length_nil, List.length_cons, List.length_append, List.length_replicate, List.length_set, List.length_map, List.length_take, List.length_drop]; omega))) rfl rfl rfl ?_)
      refine ws (st_po (po_load_sl rfl (List.getElem?_eq_getElem (by first | omega | (simp only [List.length_nil, List.length_cons, List.length_append, List.length_replicate, List.length_set, List.length_map, List.length_take, List.length_drop]; omega))) (by exact fc_flat_3) (by rfl)) rfl rfl rfl ?_)
      refine ws (st_po (po_assign rfl) rfl rfl rfl ?_)
      refine s_nil ?_
      refine at_then_wp ?_
      refine r_seq ?_
      rw [hae]
      refine r_reg ?_
      refine ws (st_po (po_move rfl) rfl rfl rfl ?_)
      refine ws (st_po (po_move rfl) rfl rfl rfl ?_)
      refine ws (st_po (po_lookup rfl rfl (by exact fc_map_129_3_3) (by exact fc_zint_3)) rfl rfl rfl ?_)
      refine ws (st_po (po_move rfl) rfl rfl rfl ?_)
      refine ws (st_po (po_extract rfl rfl) rfl rfl rfl ?_)
      refine ws (st_po (po_extract rfl rfl) rfl rfl rfl ?_)
      refine ws (st_po (po_assign rfl) rfl rfl rfl ?_)
      refine ws (st_po (po_assign rfl) rfl rfl rfl ?_)
      refine s_nil ?_
      refine at_then_wp ?_
      refine r_seq ?_
      simp only [hx, Option.getD_some, Option.getD_none, Option.isSome_some, Option.isSome_none]
      refine r_reg ?_
      refine ws (st_po (po_move rfl) rfl rfl rfl ?_)
      refine ws (st_po (po_bt (po_move rfl) (rfl)) rfl rfl rfl ?_)
      refine ws (st_po (po_move rfl) rfl rfl rfl ?_)
      refine ws (st_po (po_move rfl) rfl rfl rfl ?_)
      refine ws (st_po (po_move rfl) rfl rfl rfl ?_)
      refine ws (st_call (co_fn rfl rfl) (route_near ⟨b39, t, f.m.g.ep, v37, R⟩ a x hah hs.rr hxb.1) (by infer_instance) rfl rfl rfl ?_)
      rintro v69 _ ⟨rfl, rfl⟩
      try dsimp only [List.cons_append, List.nil_append, GridS.l, GridS.p, MeshS.l, MeshS.lF, MeshS.p, FinderS.l, FinderS.p, heapL, heapP, heapLF, FinderS.lF, RouteS.l, RouteS.p]
      refine ws (st_po (po_pick_t rfl rfl) rfl rfl rfl ?_)
      refine s_nil ?_
      refine at_then_wp ?_
      first | refine r_cond_not rfl ?_ ?_ | refine r_cond_dec rfl ?_ ?_ | refine r_cond rfl ?_ ?_
      · intro hn
        rw [if_pos hn]
        refine r_reg ?_
        refine ws (st_po (po_move rfl) rfl rfl rfl ?_)
        refine ws (st_po (po_move rfl) rfl rfl rfl ?_)
        refine ws (st_po (po_move rfl) rfl rfl rfl ?_)
        refine ws (st_call (co_fn rfl rfl) (heap_Push hb0 v l x a (by omega) hph) (by infer_instance) rfl rfl rfl ?_)
        rintro v74 _ ⟨v2, l2, rfl, rfl, hp2, hl2⟩
        try dsimp only [List.cons_append, List.nil_append, GridS.l, GridS.p, MeshS.l, MeshS.lF, MeshS.p, FinderS.l, FinderS.p, heapL, heapP, heapLF, FinderS.lF, RouteS.l, RouteS.p]
        refine s_nil ?_
        refine at_block_normal ?_
        refine at_then_wp ?_
        refine r_reg ?_
        refine ws (st_po (po_add' rfl rfl (by omega) (by omega)) rfl rfl rfl ?_)
        refine ws (st_po (po_move rfl) rfl rfl rfl ?_)
        refine s_nil ?_
        exact at_again ((k + 1, v2, l2, R.set a.toNat x)) (And.intro rfl (trivial)) (And.intro rfl (And.intro rfl (And.intro rfl (And.intro rfl (And.intro rfl (And.intro rfl (trivial))))))) (⟨by omega, hp2, hs.relax ok.g han hn hxb.1 hxb.1 hl2 (by have h1 := hl2.length_eq; rw [List.length_cons] at h1; simp only [List.length_nil]; omega) (fun j hj => (List.mem_cons.1 hj).elim (fun h => .inr ⟨h, by rw [hsdx]; exact Int.le_refl _⟩) .inl) (fun y hy => .inl hy) (.inl ⟨hto, has, by rw [hsdx]; exact hxb.2.1, hsdx.symm⟩)⟩) (by omega) ent
      · intro hn
        rw [if_neg hn]
        refine r_skip ?_
        refine at_block_normal ?_
        refine at_then_wp ?_
        refine r_reg ?_
        refine ws (st_po (po_add' rfl rfl (by omega) (by omega)) rfl rfl rfl ?_)
        refine ws (st_po (po_move rfl) rfl rfl rfl ?_)
        refine s_nil ?_
        exact at_again ((k + 1, v, l, R)) (And.intro rfl (trivial)) (And.intro rfl (And.intro rfl (And.intro rfl (And.intro rfl (And.intro rfl (And.intro rfl (trivial))))))) (⟨by omega, hph, hs.dropI (fun _ _ => by rw [hsdx]; omega)⟩) (by omega) ent
    · skip
      have hx : kv.lookup a = none := by
          cases h : kv.lookup a with
          | none => rfl
          | some x => rw [h] at hsm; exact absurd rfl hsm
      refine r_skip ?_
      refine at_then_wp ?_
      refine r_seq ?_
      refine r_block ?_
      refine r_seq ?_
      refine r_reg ?_
      refine ws (st_po (po_iaddr rfl rfl (by exact fc_slice_35_3_1) (by first | omega | (simp only [List.length_nil, List.length_cons, List.length_append, List.length_replicate, List.length_set, List.length_map, List.length_take, List.length_drop]; omega)) (by first | omega | (simp only [List.length_nil, List.length_cons, List.length_append, List.length_replicate, List.length_set, List.length_map, List.length_take, List.length_drop]; omega))) rfl rfl rfl ?_)
      refine ws (st_po (po_load_sl rfl (List.getElem?_eq_getElem (by first | omega | (simp only [List.length_nil, List.length_cons, List.length_append, List.length_replicate, List.length_set, List.length_map, List.length_take, List.length_drop]; omega))) (by exact fc_flat_3) (by rfl)) rfl rfl rfl ?_)
      refine ws (st_po (po_assign rfl) rfl rfl rfl ?_)
      refine s_nil ?_
      refine at_then_wp ?_
      refine r_seq ?_
      rw [hae]
      refine r_reg ?_
      refine ws (st_po (po_move rfl) rfl rfl rfl ?_)
      refine ws (st_po (po_move rfl) rfl rfl rfl ?_)
      refine ws (st_po (po_lookup rfl rfl (by exact fc_map_129_3_3) (by exact fc_zint_3)) rfl rfl rfl ?_)
      refine ws (st_po (po_move rfl) rfl rfl rfl ?_)
      refine ws (st_po (po_extract rfl rfl) rfl rfl rfl ?_)
      refine ws (st_po (po_extract rfl rfl) rfl rfl rfl ?_)
      refine ws (st_po (po_assign rfl) rfl rfl rfl ?_)
      refine ws (st_po (po_assign rfl) rfl rfl rfl ?_)
      refine s_nil ?_
      refine at_then_wp ?_
      refine r_seq ?_
      simp only [hx, Option.getD_some, Option.getD_none, Option.isSome_some, Option.isSome_none]
      refine r_reg ?_
      refine ws (st_po (po_move rfl) rfl rfl rfl ?_)
      refine ws (st_po (po_bf (po_move rfl) (rfl)) rfl rfl rfl ?_)
      refine ws (st_no rfl rfl rfl ?_)
      refine ws (st_no rfl rfl rfl ?_)
      refine ws (st_no rfl rfl rfl ?_)
      refine ws (st_no rfl rfl rfl ?_)
      refine ws (st_po (po_pick_f rfl rfl) rfl rfl rfl ?_)
      refine s_nil ?_
      refine at_then_wp ?_
      refine r_cond_f rfl rfl ?_
      refine r_skip ?_
      refine at_block_normal ?_
      refine at_then_wp ?_
      refine r_reg ?_
      refine ws (st_po (po_add' rfl rfl (by omega) (by omega)) rfl rfl rfl ?_)
      refine ws (st_po (po_move rfl) rfl rfl rfl ?_)
      refine s_nil ?_
      exact at_again ((k + 1, v, l, R)) (And.intro rfl (trivial)) (And.intro rfl (And.intro rfl (And.intro rfl (And.intro rfl (And.intro rfl (And.intro rfl (trivial))))))) (⟨by omega, hph, hs.dropI (fun ho h => by rw [sd_eq ok.g (hk1 ho), kvF, hx] at h; exact absurd h (by decide))⟩) (by omega) ent
  · intro hlt
    rw [List.drop_eq_nil_of_le (by omega)] at hs
    have hsl := hs.hl
    simp only [List.length_cons, List.length_nil] at hsl
    have hdl0 : (0 : Nat) ≤ f.m.g.c.length := by omega
    refine r_exit ?_
    refine at_then_exit ?_
    refine at_then_exit ?_
    refine at_block_here ?_
    refine at_then_wp ?_
    refine r_seq ?_
    refine r_joink (S := Bool × Ent × Value × List Ent) (fun ⟨o, e, v, l⟩ => [(14, .int .i64 e.key), (15, .int .i64 e.item), (16, .bool o)]) [(0, _), (7, _), (8, _)] (fun ⟨o, e, v, l⟩ => Blk hb0 157 [v] :: Sl eH v l :: Blk b39 84 [.int .i64 t, .int .i64 f.m.g.ep, v37] :: Sl eW v37 R :: f.lF kept F) (fun ⟨o, e, v, l⟩ => NxS f.m.g t R o e l [] 0 0) (And.intro rfl (And.intro rfl (And.intro rfl (trivial)))) ?_ ?_
    · skip
      by_cases hl0 : l = []
      · skip
        subst hl0
        refine r_reg ?_
        refine ws (st_po (po_move rfl) rfl rfl rfl ?_)
        refine ws (st_call (co_fn rfl rfl) (heap_Pop0 hb0 v) (by infer_instance) rfl rfl rfl ?_)
        rintro v78 _ ⟨rfl, rfl⟩
        try dsimp only [List.cons_append, List.nil_append, GridS.l, GridS.p, MeshS.l, MeshS.lF, MeshS.p, FinderS.l, FinderS.p, heapL, heapP, heapLF, FinderS.lF, RouteS.l, RouteS.p]
        refine ws (st_po (po_move rfl) rfl rfl rfl ?_)
        refine ws (st_po (po_extract rfl rfl) rfl rfl rfl ?_)
        refine ws (st_po (po_extract rfl rfl) rfl rfl rfl ?_)
        refine ws (st_po (po_extract rfl rfl) rfl rfl rfl ?_)
        refine ws (st_po (po_assign rfl) rfl rfl rfl ?_)
        refine ws (st_po (po_assign rfl) rfl rfl rfl ?_)
        refine ws (st_po (po_assign rfl) rfl rfl rfl ?_)
        refine s_nil ?_
        exact at_join ((false, ⟨0, 0⟩, v, [])) (And.intro rfl (And.intro rfl (And.intro rfl (trivial)))) (And.intro rfl (And.intro rfl (And.intro rfl (trivial)))) (NxS.mk_f hs hph) ent
      · skip
        refine r_reg ?_
        refine ws (st_po (po_move rfl) rfl rfl rfl ?_)
        refine ws (st_call (co_fn rfl rfl) (heap_Pop hb0 v l (by have := List.length_pos_iff.2 hl0; omega) (by omega) hph) (by infer_instance) rfl rfl rfl ?_)
        rintro v78 _ ⟨e', v', l', rfl, rfl, hpm', hp', hmin'⟩
        try dsimp only [List.cons_append, List.nil_append, GridS.l, GridS.p, MeshS.l, MeshS.lF, MeshS.p, FinderS.l, FinderS.p, heapL, heapP, heapLF, FinderS.lF, RouteS.l, RouteS.p]
        refine ws (st_po (po_move rfl) rfl rfl rfl ?_)
        refine ws (st_po (po_extract rfl rfl) rfl rfl rfl ?_)
        refine ws (st_po (po_extract rfl rfl) rfl rfl rfl ?_)
        refine ws (st_po (po_extract rfl rfl) rfl rfl rfl ?_)
        refine ws (st_po (po_assign rfl) rfl rfl rfl ?_)
        refine ws (st_po (po_assign rfl) rfl rfl rfl ?_)
        refine ws (st_po (po_assign rfl) rfl rfl rfl ?_)
        refine s_nil ?_
        exact at_join ((true, e', v', l')) (And.intro rfl (And.intro rfl (And.intro rfl (trivial)))) (And.intro rfl (And.intro rfl (And.intro rfl (trivial)))) (NxS.mk_t hs hpm' hmin' hp') ent
    · rintro ⟨o, e, v, l⟩ hI0
      try dsimp only [List.cons_append, List.nil_append, GridS.l, GridS.p, MeshS.l, MeshS.lF, MeshS.p, FinderS.l, FinderS.p, heapL, heapP, heapLF, FinderS.lF, RouteS.l, RouteS.p]
      refine r_block ?_
      refine r_loop (S := Bool × Ent × Value × List Ent × List Int × List Int × Int × Int) (fun ⟨o, e, v, l, R, dn, top, cur⟩ => [(14, .int .i64 e.key), (15, .int .i64 e.item), (16, .bool o)]) [(0, _), (7, _), (8, _)] (fun ⟨o, e, v, l, R, dn, top, cur⟩ => Blk hb0 157 [v] :: Sl eH v l :: Blk b39 84 [.int .i64 t, .int .i64 f.m.g.ep, v37] :: Sl eW v37 R :: f.lF kept F) (fun ⟨o, e, v, l, R, dn, top, cur⟩ => NxS f.m.g t R o e l dn top cur) (fun ⟨o, e, v, l, R, dn, top, cur⟩ => muS dn f.m.g.c.length o l) ((o, e, v, l, R, [], 0, 0)) (And.intro rfl (And.intro rfl (And.intro rfl (trivial)))) (And.intro rfl (And.intro rfl (And.intro rfl (trivial)))) (hI0) ent ?_
      rintro ⟨o, e, v, l, R, dn, top, cur⟩ hI
      try dsimp only [List.cons_append, List.nil_append, GridS.l, GridS.p, MeshS.l, MeshS.lF, MeshS.p, FinderS.l, FinderS.p, heapL, heapP, heapLF, FinderS.lF, RouteS.l, RouteS.p]
      have hil := hI.hl
      have hidl := hI.dl
      refine r_seq ?_
      refine r_seq ?_
      refine r_reg ?_
      refine ws (st_po (po_move rfl) rfl rfl rfl ?_)
      refine s_nil ?_
      refine at_then_wp ?_
      first | refine r_cond_not rfl ?_ ?_ | refine r_cond_dec rfl ?_ ?_ | refine r_cond rfl ?_ ?_
      · intro ho
        obtain ⟨hp, hs, hpp, hmn⟩ := hI.ok ho
        have hmv := muS_t dn f.m.g.c.length l ho
        have hew := hs.hw e (hpp.mem_iff.2 (List.mem_cons_self ..))
        have hee : 0 ≤ e.item ∧ e.item < R.length := ⟨hew.1.1.1.1, by have := hew.1.1.1.2.1; rw [hs.rl]; exact this⟩
        have hge : gAt R e.item = R[e.item.toNat]'(by omega) := gAt_get (by omega)
        have hrb := hs.rr _ (List.getElem_mem (show e.item.toNat < R.length by omega))
        refine r_skip ?_
        refine at_then_wp ?_
        refine r_seq ?_
        refine r_block ?_
        refine r_seq ?_
        refine r_seq ?_
        refine r_reg ?_
        refine ws (st_po (po_move rfl) rfl rfl rfl ?_)
        refine ws (st_po (po_move rfl) rfl rfl rfl ?_)
        refine ws (st_po (po_nil rfl) rfl rfl rfl ?_)
        refine ws (st_po (po_faddr rfl (by exact fc_field_84_2_2)) rfl rfl rfl ?_)
        refine ws (st_po (po_load rfl (by exact fc_flat_82) (by rfl)) rfl rfl rfl ?_)
        refine ws (st_po (po_move rfl) rfl rfl rfl ?_)
        refine ws (st_po (po_iaddr rfl rfl (by exact fc_slice_82_21_1) (by first | omega | (simp only [List.length_nil, List.length_cons, List.length_append, List.length_replicate, List.length_set, List.length_map, List.length_take, List.length_drop]; omega)) (by first | omega | (simp only [List.length_nil, List.length_cons, List.length_append, List.length_replicate, List.length_set, List.length_map, List.length_take, List.length_drop]; omega))) rfl rfl rfl ?_)
        refine ws (st_po (po_load_sl rfl (List.getElem?_eq_getElem (by first | omega | (simp only [List.length_nil, List.length_cons, List.length_append, List.length_replicate, List.length_set, List.length_map, List.length_take, List.length_drop]; omega))) (by exact fc_flat_21) (by rfl)) rfl rfl rfl ?_)
        refine ws (st_po (po_conv_w rfl (by exact fc_int_21_i32) (by exact fc_int_3_i64) (wrap_i64 _ (by omega) (by omega))) rfl rfl rfl ?_)
        refine ws (st_po (po_gt rfl rfl) rfl rfl rfl ?_)
        refine s_nil ?_
        refine at_then_wp ?_
        first | refine r_cond_not rfl ?_ ?_ | refine r_cond_dec rfl ?_ ?_ | refine r_cond rfl ?_ ?_
        · intro hk
          have hs2 := hs.popOld hpp (by omega)
          by_cases hl0 : l = []
          · skip
            subst hl0
            refine r_exit ?_
            refine at_then_exit ?_
            refine at_block_here ?_
            refine at_then_wp ?_
            refine r_reg ?_
            refine ws (st_po (po_move rfl) rfl rfl rfl ?_)
            refine ws (st_call (co_fn rfl rfl) (heap_Pop0 hb0 v) (by infer_instance) rfl rfl rfl ?_)
            rintro v85 _ ⟨rfl, rfl⟩
            try dsimp only [List.cons_append, List.nil_append, GridS.l, GridS.p, MeshS.l, MeshS.lF, MeshS.p, FinderS.l, FinderS.p, heapL, heapP, heapLF, FinderS.lF, RouteS.l, RouteS.p]
            refine ws (st_po (po_move rfl) rfl rfl rfl ?_)
            refine ws (st_po (po_extract rfl rfl) rfl rfl rfl ?_)
            refine ws (st_po (po_extract rfl rfl) rfl rfl rfl ?_)
            refine ws (st_po (po_extract rfl rfl) rfl rfl rfl ?_)
            refine ws (st_po (po_assign rfl) rfl rfl rfl ?_)
            refine ws (st_po (po_assign rfl) rfl rfl rfl ?_)
            refine ws (st_po (po_assign rfl) rfl rfl rfl ?_)
            refine s_nil ?_
            exact at_again ((false, ⟨0, 0⟩, v, [], R, dn, top, cur)) (And.intro rfl (And.intro rfl (And.intro rfl (trivial)))) (And.intro rfl (And.intro rfl (And.intro rfl (trivial)))) (NxS.mk_f hs2 hI.hp) (by rw [hmv, muS_f _ _ _ rfl]; simp) ent
          · skip
            refine r_exit ?_
            refine at_then_exit ?_
            refine at_block_here ?_
            refine at_then_wp ?_
            refine r_reg ?_
            refine ws (st_po (po_move rfl) rfl rfl rfl ?_)
            refine ws (st_call (co_fn rfl rfl) (heap_Pop hb0 v l (by have := List.length_pos_iff.2 hl0; omega) (by omega) hI.hp) (by infer_instance) rfl rfl rfl ?_)
            rintro v85 _ ⟨e', v', l', rfl, rfl, hpm', hp', hmin'⟩
            try dsimp only [List.cons_append, List.nil_append, GridS.l, GridS.p, MeshS.l, MeshS.lF, MeshS.p, FinderS.l, FinderS.p, heapL, heapP, heapLF, FinderS.lF, RouteS.l, RouteS.p]
            refine ws (st_po (po_move rfl) rfl rfl rfl ?_)
            refine ws (st_po (po_extract rfl rfl) rfl rfl rfl ?_)
            refine ws (st_po (po_extract rfl rfl) rfl rfl rfl ?_)
            refine ws (st_po (po_extract rfl rfl) rfl rfl rfl ?_)
            refine ws (st_po (po_assign rfl) rfl rfl rfl ?_)
            refine ws (st_po (po_assign rfl) rfl rfl rfl ?_)
            refine ws (st_po (po_assign rfl) rfl rfl rfl ?_)
            refine s_nil ?_
            exact at_again ((true, e', v', l', R, dn, top, cur)) (And.intro rfl (And.intro rfl (And.intro rfl (trivial)))) (And.intro rfl (And.intro rfl (And.intro rfl (trivial)))) (NxS.mk_t hs2 hpm' hmin' hp') (by rw [hmv, muS_t _ _ _ rfl]; have := hpm'.length_eq; simp only [List.length_cons] at this; dsimp only; omega) ent
        · intro hk
          refine r_skip ?_
          refine at_then_wp ?_
          refine r_seq ?_
          refine r_reg ?_
          refine ws (st_po (po_move rfl) rfl rfl rfl ?_)
          refine ws (st_po (po_nil rfl) rfl rfl rfl ?_)
          refine ws (st_po (po_faddr rfl (by exact fc_field_98_0_0)) rfl rfl rfl ?_)
          refine ws (st_po (po_load rfl (by exact fc_flat_63) (by rfl)) rfl rfl rfl ?_)
          refine ws (st_po (po_move rfl) rfl rfl rfl ?_)
          refine ws (st_call (co_fn rfl rfl) (mesh_Into f.m ok e.item hew.1.1.2 ((mem_nodes ok.g (sector_lt hew.1.1.2).1).2 ⟨hew.1, rfl⟩)) (by infer_instance) rfl rfl rfl ?_)
          rintro v104 _ ⟨d, es, rfl, hel, hdl, hd, hes⟩
          try dsimp only [List.cons_append, List.nil_append, GridS.l, GridS.p, MeshS.l, MeshS.lF, MeshS.p, FinderS.l, FinderS.p, heapL, heapP, heapLF, FinderS.lF, RouteS.l, RouteS.p]
          have hed := into_ed ok hew.1 hdl hd hes
          obtain ⟨hs2, hke, hun⟩ := hs.popNew hpp hmn (by omega) hel (fun a c h => (hed a c).2 h)
          have hcn2 := hs2.cnt
          simp only [List.length_cons] at hcn2
          refine ws (st_po (po_len rfl (by exact fc_slice_73_76_2)) rfl rfl rfl ?_)
          refine ws (st_po (po_move rfl) rfl rfl rfl ?_)
          refine s_nil ?_
          refine at_then_wp ?_
          refine r_block ?_
          refine r_loop (S := Nat × Value × List Ent × List Int) (fun ⟨j, v, l', R'⟩ => [(106, .int .i64 j)]) [(0, _), (7, _), (8, _), (14, _), (104, _), (105, _)] (fun ⟨j, v, l', R'⟩ => Sl eE v104 es :: Blk hb0 157 [v] :: Sl eH v l' :: Blk b39 84 [.int .i64 t, .int .i64 f.m.g.ep, v37] :: Sl eW v37 R' :: f.lF kept F) (fun ⟨j, v, l', R'⟩ => j ≤ es.length ∧ l'.length ≤ l.length + j ∧ HpL l' ∧ gAt R' e.item = e.key ∧ Sch f.m.g t R' l' (e.item :: dn) e.key e.item [] (es.drop j)) (fun ⟨j, v, l', R'⟩ => es.length - j) ((0, v, l, R)) (And.intro rfl (And.intro rfl (And.intro rfl (And.intro rfl (And.intro rfl (And.intro rfl (trivial))))))) (And.intro rfl (trivial)) (⟨by omega, by omega, hI.hp, hke, hs2⟩) ent ?_
          rintro ⟨j, v, l', R'⟩ ⟨hj, hll, hph, hkr, hs3⟩
          try dsimp only [List.cons_append, List.nil_append, GridS.l, GridS.p, MeshS.l, MeshS.lF, MeshS.p, FinderS.l, FinderS.p, heapL, heapP, heapLF, FinderS.lF, RouteS.l, RouteS.p]
          have hl3 := hs3.hl
          simp only [List.length_cons, List.length_nil] at hl3
          refine r_seq ?_
          refine r_reg ?_
          refine ws (st_po (po_lt rfl rfl) rfl rfl rfl ?_)
          refine s_nil ?_
          refine at_then_wp ?_
          refine r_seq ?_
          first | refine r_cond_not rfl ?_ ?_ | refine r_cond_dec rfl ?_ ?_ | refine r_cond rfl ?_ ?_
          · intro hlt
            have hjl : j < es.length := by omega
            rw [List.drop_eq_getElem_cons hjl] at hs3 hl3
            simp only [List.length_cons, List.length_nil] at hl3
            obtain ⟨x, hxe⟩ : ∃ x, es[(j : Int).toNat]'(by omega) = x := ⟨_, rfl⟩
            have hxj : es[j] = x := hxe
            rw [hxj] at hs3
            have hxd : EdR f.m.g e.item x.to x.cost := (hed _ _).1 (by rw [← hxj]; exact List.getElem_mem hjl)
            have hxt : 0 ≤ x.to ∧ x.to < R'.length := ⟨hxd.1.1.1.1, by have := hxd.1.1.1.2.1; rw [hs3.rl]; exact this⟩
            have hxc : 0 ≤ x.cost ∧ x.cost ≤ 1099511627776 := by
                rcases hxd.2 with ⟨_, _, h1, h2⟩ | ⟨_, _, h2⟩
                · have := (mesh_sd ok hew.1).rng x.to; omega
                · have := opn_cost ok.g hew.1.1.1; omega
            refine r_skip ?_
            refine at_then_wp ?_
            refine r_seq ?_
            refine r_block ?_
            refine r_seq ?_
            refine r_reg ?_
            refine ws (st_po (po_iaddr rfl rfl (by exact fc_slice_73_76_2) (by first | omega | (simp only [List.length_nil, List.length_cons, List.length_append, List.length_replicate, List.length_set, List.length_map, List.length_take, List.length_drop]; omega)) (by first | omega | (simp only [List.length_nil, List.length_cons, List.length_append, List.length_replicate, List.length_set, List.length_map, List.length_take, List.length_drop]; omega))) rfl rfl rfl ?_)
            refine ws (st_po (ld_eE rfl (List.getElem?_eq_getElem (by first | omega | (simp only [List.length_nil, List.length_cons, List.length_append, List.length_replicate, List.length_set, List.length_map, List.length_take, List.length_drop]; omega))) (by exact fc_agg_76_2)) rfl rfl rfl ?_)
            refine ws (st_xo (xo_alloc (by exact fc_zero_76)) rfl rfl rfl ?_)
            rintro _ _ ⟨b18, rfl, rfl⟩
            refine ws (st_so (so_storea1 rfl rfl (by exact fc_agg_76_2) rfl rfl) rfl rfl ?_)
            refine s_nil ?_
            refine at_then_wp ?_
            refine r_seq ?_
            rw [hxe]
            refine r_reg ?_
            refine ws (st_po (po_move rfl) rfl rfl rfl ?_)
            refine ws (st_po (po_faddr rfl (by exact fc_field_76_0_0)) rfl rfl rfl ?_)
            refine ws (st_po (po_load rfl (by exact fc_flat_3) (by rfl)) rfl rfl rfl ?_)
            refine ws (st_po (po_move rfl) rfl rfl rfl ?_)
            refine ws (st_po (po_faddr rfl (by exact fc_field_76_1_1)) rfl rfl rfl ?_)
            refine ws (st_po (po_load rfl (by exact fc_flat_3) (by rfl)) rfl rfl rfl ?_)
            refine ws (st_po (po_add' rfl rfl (by omega) (by omega)) rfl rfl rfl ?_)
            refine ws (st_call (co_fn rfl rfl) (route_near ⟨b39, t, f.m.g.ep, v37, R'⟩ x.to (e.key + x.cost) hxt hs3.rr (by omega)) (by infer_instance) rfl rfl rfl ?_)
            rintro v117 _ ⟨rfl, rfl⟩
            try dsimp only [List.cons_append, List.nil_append, GridS.l, GridS.p, MeshS.l, MeshS.lF, MeshS.p, FinderS.l, FinderS.p, heapL, heapP, heapLF, FinderS.lF, RouteS.l, RouteS.p]
            refine s_nil ?_
            refine at_then_wp ?_
            first | refine r_cond_not rfl ?_ ?_ | refine r_cond_dec rfl ?_ ?_ | refine r_cond rfl ?_ ?_
            · intro hn
              rw [if_pos hn]
              refine r_reg ?_
              refine ws (st_po (po_move rfl) rfl rfl rfl ?_)
              refine ws (st_po (po_move rfl) rfl rfl rfl ?_)
              refine ws (st_po (po_faddr rfl (by exact fc_field_76_1_1)) rfl rfl rfl ?_)
              refine ws (st_po (po_load rfl (by exact fc_flat_3) (by rfl)) rfl rfl rfl ?_)
              refine ws (st_po (po_add' rfl rfl (by omega) (by omega)) rfl rfl rfl ?_)
              refine ws (st_po (po_faddr rfl (by exact fc_field_76_0_0)) rfl rfl rfl ?_)
              refine ws (st_po (po_load rfl (by exact fc_flat_3) (by rfl)) rfl rfl rfl ?_)
              refine ws (st_call (co_fn rfl rfl) (heap_Push hb0 v l' (e.key + x.cost) x.to (by omega) hph) (by infer_instance) rfl rfl rfl ?_)
              rintro v125 _ ⟨v2, l2, rfl, rfl, hp2, hl2⟩
              try dsimp only [List.cons_append, List.nil_append, GridS.l, GridS.p, MeshS.l, MeshS.lF, MeshS.p, FinderS.l, FinderS.p, heapL, heapP, heapLF, FinderS.lF, RouteS.l, RouteS.p]
              have hs4 := hs3.relax (todoI' := []) (todo' := es.drop (j + 1)) ok.g hxd.1 hn (by omega) (by omega) hl2 (by have h1 := hl2.length_eq; rw [List.length_cons] at h1; simp only [List.length_nil, List.length_cons]; omega) (fun y hy => .inl hy) (fun y hy => (List.mem_cons.1 hy).elim (fun h => .inr ⟨by rw [h], by rw [h, hkr]; exact Int.le_refl _⟩) .inl) (.inr ⟨e.item, x.cost, List.mem_cons_self .., hxd, by rw [hkr]⟩)
              have hkr2 : gAt (R'.set x.to.toNat (e.key + x.cost)) e.item = e.key := by rw [gAt_set hxt.1 hxt.2 hew.1.1.1.1, if_neg (fun h => by rw [h] at hkr; omega)]; exact hkr
              refine s_nil ?_
              refine at_block_normal ?_
              refine at_then_wp ?_
              refine r_reg ?_
              refine ws (st_po (po_add' rfl rfl (by omega) (by omega)) rfl rfl rfl ?_)
              refine ws (st_po (po_move rfl) rfl rfl rfl ?_)
              refine s_nil ?_
              exact at_again ((j + 1, v2, l2, R'.set x.to.toNat (e.key + x.cost))) (And.intro rfl (trivial)) (And.intro rfl (And.intro rfl (And.intro rfl (And.intro rfl (And.intro rfl (And.intro rfl (trivial))))))) (⟨by omega, by have := hl2.length_eq; simp only [List.length_cons] at this; dsimp only; omega, hp2, hkr2, hs4⟩) (by omega) ent
            · intro hn
              rw [if_neg hn]
              refine r_skip ?_
              refine at_block_normal ?_
              refine at_then_wp ?_
              refine r_reg ?_
              refine ws (st_po (po_add' rfl rfl (by omega) (by omega)) rfl rfl rfl ?_)
              refine ws (st_po (po_move rfl) rfl rfl rfl ?_)
              refine s_nil ?_
              exact at_again ((j + 1, v, l', R')) (And.intro rfl (trivial)) (And.intro rfl (And.intro rfl (And.intro rfl (And.intro rfl (And.intro rfl (And.intro rfl (trivial))))))) (⟨by omega, by dsimp only; omega, hph, hkr, hs3.dropE (by rw [hkr]; omega)⟩) (by omega) ent
          · intro hlt
            rw [List.drop_eq_nil_of_le (by omega)] at hs3
            by_cases hl0 : l' = []
            · skip
              subst hl0
              refine r_exit ?_
              refine at_then_exit ?_
              refine at_then_exit ?_
              refine at_block_here ?_
              refine at_block_normal ?_
              refine at_then_wp ?_
              refine r_reg ?_
              refine ws (st_po (po_move rfl) rfl rfl rfl ?_)
              refine ws (st_call (co_fn rfl rfl) (heap_Pop0 hb0 v) (by infer_instance) rfl rfl rfl ?_)
              rintro v85 _ ⟨rfl, rfl⟩
              try dsimp only [List.cons_append, List.nil_append, GridS.l, GridS.p, MeshS.l, MeshS.lF, MeshS.p, FinderS.l, FinderS.p, heapL, heapP, heapLF, FinderS.lF, RouteS.l, RouteS.p]
              refine ws (st_po (po_move rfl) rfl rfl rfl ?_)
              refine ws (st_po (po_extract rfl rfl) rfl rfl rfl ?_)
              refine ws (st_po (po_extract rfl rfl) rfl rfl rfl ?_)
              refine ws (st_po (po_extract rfl rfl) rfl rfl rfl ?_)
              refine ws (st_po (po_assign rfl) rfl rfl rfl ?_)
              refine ws (st_po (po_assign rfl) rfl rfl rfl ?_)
              refine ws (st_po (po_assign rfl) rfl rfl rfl ?_)
              refine s_nil ?_
              exact at_again ((false, ⟨0, 0⟩, v, [], R', e.item :: dn, e.key, e.item)) (And.intro rfl (And.intro rfl (And.intro rfl (trivial)))) (And.intro rfl (And.intro rfl (And.intro rfl (trivial)))) (NxS.mk_f hs3 hph) (by rw [hmv, muS_f _ _ _ rfl]; simp; omega) ent
            · skip
              refine r_exit ?_
              refine at_then_exit ?_
              refine at_then_exit ?_
              refine at_block_here ?_
              refine at_block_normal ?_
              refine at_then_wp ?_
              refine r_reg ?_
              refine ws (st_po (po_move rfl) rfl rfl rfl ?_)
              refine ws (st_call (co_fn rfl rfl) (heap_Pop hb0 v l' (by have := List.length_pos_iff.2 hl0; omega) (by omega) hph) (by infer_instance) rfl rfl rfl ?_)
              rintro v85 _ ⟨e', v', l5, rfl, rfl, hpm', hp', hmin'⟩
              try dsimp only [List.cons_append, List.nil_append, GridS.l, GridS.p, MeshS.l, MeshS.lF, MeshS.p, FinderS.l, FinderS.p, heapL, heapP, heapLF, FinderS.lF, RouteS.l, RouteS.p]
              refine ws (st_po (po_move rfl) rfl rfl rfl ?_)
              refine ws (st_po (po_extract rfl rfl) rfl rfl rfl ?_)
              refine ws (st_po (po_extract rfl rfl) rfl rfl rfl ?_)
              refine ws (st_po (po_extract rfl rfl) rfl rfl rfl ?_)
              refine ws (st_po (po_assign rfl) rfl rfl rfl ?_)
              refine ws (st_po (po_assign rfl) rfl rfl rfl ?_)
              refine ws (st_po (po_assign rfl) rfl rfl rfl ?_)
              refine s_nil ?_
              exact at_again ((true, e', v', l5, R', e.item :: dn, e.key, e.item)) (And.intro rfl (And.intro rfl (And.intro rfl (trivial)))) (And.intro rfl (And.intro rfl (And.intro rfl (trivial)))) (NxS.mk_t hs3 hpm' hmin' hp') (by rw [hmv, muS_t _ _ _ rfl]; have := hpm'.length_eq; simp only [List.length_cons] at this; dsimp only; omega) ent
      · intro ho
        obtain ⟨rfl, hs⟩ := hI.no (by simpa using ho)
        refine r_exit ?_
        refine at_then_exit ?_
        refine at_then_exit ?_
        refine at_block_here ?_
        refine at_then_wp ?_
        refine r_seq ?_
        refine r_reg ?_
        refine ws (st_po (po_move rfl) rfl rfl rfl ?_)
        refine ws (st_po (po_assign rfl) rfl rfl rfl ?_)
        refine s_nil ?_
        refine at_then_wp ?_
        refine r_ret ?_
        refine at_ret1 rfl (rv_tmp rfl) ⟨_, ⟨⟨b39, t, f.m.g.ep, v37, R⟩, rfl, rfl, rfl, rfl, hs.rl, hs.rr, hsd, hs.done⟩, ?_⟩
        try dsimp only [List.cons_append, List.nil_append, GridS.l, GridS.p, MeshS.l, MeshS.lF, MeshS.p, FinderS.l, FinderS.p, heapL, heapP, heapLF, FinderS.lF, RouteS.l, RouteS.p]
        exact ent
end Hd
end
section
namespace Hd
open Classical
/-! ## the whole map's distances: there is one solution -/
inductive Pth (w h : Int) (C : List Int) (t : Int) : Int → Nat → Prop
  | nil : OpC w h C t → Pth w h C t t 0
  | step {c m : Int} {n : Nat} : OpC w h C c → Adj w h c m → Pth w h C t m n → Pth w h C t c (n + (gAt C m).toNat)
theorem least {p : Nat → Prop} (h : ∃ n, p n) : ∃ n, p n ∧ ∀ m, p m → n ≤ m := by
  obtain ⟨n, hn⟩ := h
  induction n using Nat.strongRecOn with
  | _ n ih =>
    by_cases e : ∃ m, m < n ∧ p m
    · obtain ⟨m, hm, hp⟩ := e; exact ih m hm hp
    · exact ⟨n, hn, fun m hm => by rcases Nat.lt_or_ge m n with h | h; exact absurd ⟨m, h, hm⟩ e; exact h⟩
section
variable {w h : Int} {C : List Int} {t : Int}
theorem Pth.op {c : Int} {n : Nat} (k : Pth w h C t c n) : OpC w h C c := by cases k with
  | nil h => exact h
  | step h _ _ => exact h
/-- the least, where there is a way -/
def Lst (w h : Int) (C : List Int) (t c : Int) (n : Nat) : Prop := Pth w h C t c n ∧ ∀ m, Pth w h C t c m → n ≤ m
theorem Lst.uniq {c : Int} {n m : Nat} (a : Lst w h C t c n) (b : Lst w h C t c m) : n = m := by have := a.2 m b.1; have := b.2 n a.1; omega
theorem Lst.step {c : Int} {n : Nat} (k : Lst w h C t c n) : (c = t ∧ n = 0) ∨ ∃ m n', Adj w h c m ∧ OpC w h C c ∧ Lst w h C t m n' ∧ n = n' + (gAt C m).toNat := by
  obtain ⟨k, hl⟩ := k
  cases k with
  | nil h => exact .inl ⟨rfl, rfl⟩
  | @step _ m n' h1 h2 h3 =>
    refine .inr ⟨m, n', h2, h1, ⟨h3, fun x hx => ?_⟩, rfl⟩
    have := hl _ (.step h1 h2 hx)
    omega
theorem Lst.bound (hC : ∀ c, OpC w h C c → 1 ≤ gAt C c ∧ gAt C c ≤ 255) : ∀ (n : Nat) (c : Int), Lst w h C t c n → n ≤ 255 * (List.range C.length).countP (fun (i : Nat) => decide (∃ m, Lst w h C t i m ∧ m < n)) := by
  intro n
  induction n using Nat.strongRecOn with
  | _ n ih =>
    intro c hc
    rcases hc.step with ⟨_, e⟩ | ⟨m, n', h1, h2, h3, e⟩
    · omega
    · have hm := hC m h3.1.op
      have hmo := h3.1.op
      have := ih n' (by omega) m h3
      have hmm : ((m.toNat : Nat) : Int) = m := Int.toNat_of_nonneg hmo.1.1
      have hcnt := cnt_lt (fun i : Nat => decide (∃ x, Lst w h C t i x ∧ x < n')) (fun i : Nat => decide (∃ x, Lst w h C t i x ∧ x < n))
        (fun x hx => by have := of_decide_eq_true hx; exact decide_eq_true (by obtain ⟨y, h5, h6⟩ := this; exact ⟨y, h5, by omega⟩)) (List.range C.length) m.toNat (List.mem_range.2 (by have := hmo.1.2.1; omega))
        (decide_eq_true ⟨n', by rw [hmm]; exact h3, by omega⟩) (decide_eq_false (fun ⟨y, h5, h6⟩ => by rw [hmm] at h5; have := h5.uniq h3; omega))
      omega
end
theorem opc_cost {g : GridS} (ok : GridOk g) {c : Int} (h : OpC g.w g.h g.c c) : 1 ≤ gAt g.c c ∧ gAt g.c c ≤ 255 := opn_cost ok h.1
theorem flat_ex {g : GridS} (ok : GridOk g) (t : Int) : ∃ D, IsD g.w g.h g.c (OpC g.w g.h g.c) (srcT g.c t) D ∧ ∀ c, D c < INF → D c ≤ 255 * g.c.length := by
  have hI : INF = 1099511627776 := rfl
  have hlen : g.c.length ≤ 1048576 := by have := ok.len; have := may_mul ok.may; omega
  have hex : ∀ c, ∃ v : Int, (∃ n : Nat, v = n ∧ Lst g.w g.h g.c t c n) ∨ (v = INF ∧ ∀ n, ¬ Pth g.w g.h g.c t c n) := by
    intro c
    by_cases e : ∃ n, Pth g.w g.h g.c t c n
    · obtain ⟨n, hn⟩ := least e; exact ⟨n, .inl ⟨n, rfl, hn⟩⟩
    · exact ⟨INF, .inr ⟨rfl, fun n hn => e ⟨n, hn⟩⟩⟩
  obtain ⟨D, hD⟩ : ∃ D : Int → Int, ∀ c, (∃ n : Nat, D c = n ∧ Lst g.w g.h g.c t c n) ∨ (D c = INF ∧ ∀ n, ¬ Pth g.w g.h g.c t c n) := ⟨fun c => Classical.choose (hex c), fun c => Classical.choose_spec (hex c)⟩
  have hb : ∀ c n, Lst g.w g.h g.c t c n → n ≤ 255 * g.c.length := fun c n k => by
    have h1 := Lst.bound (fun c => opc_cost ok) n c k
    have h2 : (List.range g.c.length).countP (fun (i : Nat) => decide (∃ m, Lst g.w g.h g.c t i m ∧ m < n)) ≤ g.c.length := Nat.le_trans List.countP_le_length (by simp)
    omega
  refine ⟨D, ⟨fun c hn => ?_, fun c => ?_, fun c k hs => ?_, fun c m hc hm ha hl => ?_, fun c => ?_⟩, fun c hl => ?_⟩
  · rcases hD c with ⟨n, _, h2⟩ | ⟨h1, _⟩
    · exact absurd h2.1.op hn
    · exact h1
  · rcases hD c with ⟨n, h1, h2⟩ | ⟨h1, _⟩
    · right; have := hb c n h2; omega
    · exact .inl h1
  · obtain ⟨h1, rfl, rfl⟩ := hs
    have hp : Pth g.w g.h g.c c c 0 := .nil ⟨h1, opn_isC ok h1⟩
    rcases hD c with ⟨n, h3, h2⟩ | ⟨_, h2⟩
    · have := h2.2 0 hp; omega
    · exact absurd hp (h2 0)
  · rcases hD m with ⟨n, h1, h2⟩ | ⟨h1, _⟩
    · have hp := Pth.step hc ha h2.1
      have hcm := opc_cost ok hm
      rcases hD c with ⟨n', h3, h4⟩ | ⟨_, h4⟩
      · have := h4.2 _ hp; omega
      · exact absurd hp (h4 _)
    · omega
  · rcases hD c with ⟨n, h1, h2⟩ | ⟨h1, _⟩
    · rcases h2.step with ⟨e1, e2⟩ | ⟨m, n', h3, h4, h5, h6⟩
      · right; left
        have := h2.1.op
        exact ⟨by rw [← e1]; exact this.1, e1, by omega⟩
      · right; right
        have hcm := opc_cost ok h5.1.op
        have hbm := hb m n' h5
        rcases hD m with ⟨n2, h7, h8⟩ | ⟨_, h8⟩
        · have := h8.uniq h5
          exact ⟨m, h5.1.op, h3, by omega, by omega⟩
        · exact absurd h5.1 (h8 _)
    · exact .inl h1
  · rcases hD c with ⟨n, h1, h2⟩ | ⟨h1, _⟩
    · have := hb c n h2; omega
    · omega
noncomputable def flD (g : GridS) (t : Int) : Int → Int := Classical.epsilon fun D => IsD g.w g.h g.c (OpC g.w g.h g.c) (srcT g.c t) D
theorem fl_is {g : GridS} (ok : GridOk g) (t : Int) : IsD g.w g.h g.c (OpC g.w g.h g.c) (srcT g.c t) (flD g t) := by
  obtain ⟨D, h, _⟩ := flat_ex ok t
  exact Classical.epsilon_spec (p := fun D => IsD g.w g.h g.c (OpC g.w g.h g.c) (srcT g.c t) D) ⟨D, h⟩
theorem fl_eq {g : GridS} (ok : GridOk g) {t : Int} {D : Int → Int} (h : IsD g.w g.h g.c (OpC g.w g.h g.c) (srcT g.c t) D) (c : Int) : D c = flD g t c := isD_uniq (fun c hc => (opc_cost ok hc).1) h (fl_is ok t) c
theorem fl_bound {g : GridS} (ok : GridOk g) (t : Int) {c : Int} (h : flD g t c < INF) : 0 ≤ flD g t c ∧ flD g t c ≤ 255 * g.c.length := by
  obtain ⟨D, h1, h2⟩ := flat_ex ok t
  have := fl_eq ok h1 c
  have := (fl_is ok t).rng c
  have := h2 c (by omega)
  omega
end Hd
end
