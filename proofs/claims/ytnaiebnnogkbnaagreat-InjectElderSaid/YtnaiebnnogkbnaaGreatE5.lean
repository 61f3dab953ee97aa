/- Contracts of functions of the program, and the laws of memory that they are proved with: part 5. -/
import Derived.Below
import Derived.WalkKit
import Derived.ProofKit
import Derived.OpenShut
import Derived.ShutString
import Derived.ChangeOld
import Derived.Carry
import Derived.Lib.SmallJoins
import Derived.Test.YtnaiebnnogkbnaaGreatE4
set_option linter.unusedVariables false
set_option linter.unusedSimpArgs false
section
namespace Hd
set_option maxRecDepth 100000
open Go

/-- a route that tells of a grid as it is -/
structure RouteOk (g : GridS) (r : RouteS) : Prop where
  len : r.dist.length = g.c.length
  rng : ∀ x ∈ r.dist, 0 ≤ x ∧ x ≤ 2147483647
  nd : ∀ a, Nd g.w g.h g.c a → (if gAt r.dist a = FAR then INF else gAt r.dist a) = flD g r.goal a
  no : ∀ a : Int, 0 ≤ a → a < g.c.length → ¬ Nd g.w g.h g.c a → gAt r.dist a = FAR
theorem RouteOk.at {g : GridS} {r : RouteS} (ok : GridOk g) (k : RouteOk g r) (c : Int) : atN r c = (open Classical in if Nd g.w g.h g.c c then flD g r.goal c else INF) := by
  have hl := k.len
  have hF : FAR = 2147483647 := rfl
  have hI : INF = 1099511627776 := rfl
  unfold atN
  by_cases hn : Nd g.w g.h g.c c
  · rw [if_pos hn, ← k.nd c hn]
    have h1 := hn.1.1.1
    have h2 := hn.1.1.2.1
    by_cases e : gAt r.dist c = 2147483647
    · rw [if_neg (fun h => h.2.2 e), if_pos e]
    · rw [if_pos ⟨h1, by omega, e⟩, if_neg e]
  · rw [if_neg hn]
    by_cases e : 0 ≤ c ∧ c < r.dist.length ∧ gAt r.dist c ≠ 2147483647
    · exact absurd (k.no c e.1 (by omega) hn) e.2.2
    · rw [if_neg e]
theorem route_ok {m : MeshS} (ok : MeshFr m) {r : RouteS} (ht : IsC m.g.w m.g.h r.goal) (hl : r.dist.length = m.g.c.length) (hr : ∀ x ∈ r.dist, 0 ≤ x ∧ x ≤ FAR)
    (hs : Opn m.g.c r.goal → IsD m.g.w m.g.h m.g.c (InS m.g.w m.g.h m.g.c (sectorN m.g.w m.g.h r.goal)) (fun c k => c = r.goal ∧ k = 0) (sdN m.g r.goal))
    (hB : Bd m.g.w m.g.h m.g.c r.goal (Nd m.g.w m.g.h m.g.c) (sdN m.g) (fun a => if 0 ≤ a ∧ a < r.dist.length then gAt r.dist a else FAR)) : RouteOk m.g r := by
  have hlen := ok.g.len
  have hmul := may_mul ok.g.may
  have hF : FAR = 2147483647 := rfl
  refine ⟨hl, hr, fun a ha => ?_, fun a h0 h1 hn => ?_⟩
  · have := bd_eq (a := a) (fun c hc => (opc_cost ok.g hc).1) (fl_is ok.g r.goal) (fun c hc => by have := fl_bound ok.g r.goal hc; omega)
      (fun y hy => by
        rcases hy with hy | ⟨e, hy⟩
        · exact mesh_sd ok hy
        · rw [e]; exact hs hy.1) (fun ho => ⟨ho, ht⟩) hB ha
    have e : (if 0 ≤ a ∧ a < r.dist.length then gAt r.dist a else FAR) = gAt r.dist a := if_pos ⟨ha.1.1.1, by rw [hl]; exact ha.1.1.2.1⟩
    rw [e] at this
    exact this
  · rcases hB.tight a with e | e
    · rw [if_pos ⟨h0, by omega⟩] at e; exact e
    · exact absurd e.1 hn

/-- the route that is kept, if any -/
abbrev keptV (k : Option RouteS) : Value := match k with | some r => r.p | none => .pointer none
def keptL (k : Option RouteS) : List HP := match k with | some r => r.l | none => []
theorem route_Find0 (f : FinderS) (kept : Value) (ok : GridOk f.m.g) (t : Int) (ht : ¬ IsC f.m.g.w f.m.g.h t) : Spec PP 31 #[f.p, .int .i64 t] (f.l kept) (fun v M => v = .pointer none ∧ M = f.l kept) := by
  refine spec_of (Go.Proofs.Tryz.func31) rfl rfl rfl (by exact fc_enters_31) ?_
  intro g F
  try dsimp only [List.cons_append, List.nil_append, GridS.l, GridS.p, MeshS.l, MeshS.lF, MeshS.p, FinderS.l, FinderS.p, FinderS.lF, RouteS.l, RouteS.p]
  refine r_seq ?_
  refine r_reg ?_
  refine ws (st_po (po_assign rfl) rfl rfl rfl ?_)
  refine s_nil ?_
  refine at_then_wp ?_
  refine r_seq ?_
  refine r_seq ?_
  refine r_reg ?_
  refine ws (st_po (po_move rfl) rfl rfl rfl ?_)
  refine ws (st_po (po_peq rfl rfl (by exact fc_ptr_61)) rfl rfl rfl ?_)
  refine ws (st_po (po_bf (po_move rfl) (rfl)) rfl rfl rfl ?_)
  refine ws (st_po (po_move rfl) rfl rfl rfl ?_)
  refine ws (st_po (po_nil rfl) rfl rfl rfl ?_)
  refine ws (st_po (po_faddr rfl (by exact fc_field_98_1_1)) rfl rfl rfl ?_)
  refine ws (st_po (po_load rfl (by exact fc_flat_27) (by rfl)) rfl rfl rfl ?_)
  refine ws (st_po (po_move rfl) rfl rfl rfl ?_)
  refine ws (st_call (co_fn rfl rfl) (grid_Cost f.m.g t ok.bytes) (by infer_instance) rfl rfl rfl ?_)
  rintro v13 _ ⟨rfl, rfl⟩
  try dsimp only [List.cons_append, List.nil_append, GridS.l, GridS.p, MeshS.l, MeshS.lF, MeshS.p, FinderS.l, FinderS.p, FinderS.lF, RouteS.l, RouteS.p]
  refine ws (st_po (po_eq rfl rfl) rfl rfl rfl ?_)
  refine ws (st_po (po_pick_f rfl rfl) rfl rfl rfl ?_)
  refine s_nil ?_
  refine at_then_wp ?_
  first | refine r_dec_t rfl (by rw [costN, if_neg (fun h => ht (ok.isc.2 h))]) ?_ | refine r_nd_t rfl (by rw [costN, if_neg (fun h => ht (ok.isc.2 h))]) ?_ | refine r_cond_t rfl (by rw [costN, if_neg (fun h => ht (ok.isc.2 h))]) ?_
  refine r_seq ?_
  refine r_reg ?_
  refine ws (st_po (po_assign rfl) rfl rfl rfl ?_)
  refine s_nil ?_
  refine at_then_wp ?_
  refine r_ret ?_
  refine at_then_ret ?_
  refine at_ret1 rfl (rv_tmp rfl) ⟨_, ⟨rfl, rfl⟩, ?_⟩
  try dsimp only [List.cons_append, List.nil_append, GridS.l, GridS.p, MeshS.l, MeshS.lF, MeshS.p, FinderS.l, FinderS.p, FinderS.lF, RouteS.l, RouteS.p]
  exact ent
theorem cost_ne {g : GridS} (ok : GridOk g) {t : Int} (ht : IsC g.w g.h t) : ¬ costN g.c t = 0 := by
  have h := ok.isc.1 ht
  rw [costN, if_pos h]
  have := ok.bt _ (List.getElem_mem (show t.toNat < g.c.length by omega))
  show ¬ gAt g.c t = 0
  rw [gAt_get (by omega)]; omega
/-- the first time -/
theorem route_Find1 (f : FinderS) (ok : MeshOk f.m) (t : Int) (ht : IsC f.m.g.w f.m.g.h t) (hc : 0 ≤ f.count ∧ f.count ≤ 18446744073709551615) : Spec PP 31 #[f.p, .int .i64 t] (f.l (.pointer none))
    (fun v M => ∃ (f' : FinderS) (r : RouteS), v = r.p ∧ M = f'.l r.p ++ r.l ∧ r.goal = t ∧ r.ep = f.m.g.ep ∧ RouteOk f.m.g r ∧ MeshOk f'.m ∧ f'.m.g = f.m.g ∧ f'.m.b = f.m.b ∧ f'.m.pv = f.m.pv ∧ f'.m.clean = f.m.g.ep ∧ f'.b = f.b ∧
      f'.m.count = min (f.m.count + (dirtyTo f.m f.m.ps.length).length) 18446744073709551615 ∧ f'.count = min (f.count + 1) 18446744073709551615) := by
  refine spec_of (Go.Proofs.Tryz.func31) rfl rfl rfl (by exact fc_enters_31) ?_
  intro g F
  try dsimp only [List.cons_append, List.nil_append, GridS.l, GridS.p, MeshS.l, MeshS.lF, MeshS.p, FinderS.l, FinderS.p, FinderS.lF, RouteS.l, RouteS.p]
  refine r_seq ?_
  refine r_reg ?_
  refine ws (st_po (po_assign rfl) rfl rfl rfl ?_)
  refine s_nil ?_
  refine at_then_wp ?_
  refine r_seq ?_
  refine r_seq ?_
  refine r_reg ?_
  refine ws (st_po (po_move rfl) rfl rfl rfl ?_)
  refine ws (st_po (po_peq rfl rfl (by exact fc_ptr_61)) rfl rfl rfl ?_)
  refine ws (st_po (po_bf (po_move rfl) (rfl)) rfl rfl rfl ?_)
  refine ws (st_po (po_move rfl) rfl rfl rfl ?_)
  refine ws (st_po (po_nil rfl) rfl rfl rfl ?_)
  refine ws (st_po (po_faddr rfl (by exact fc_field_98_1_1)) rfl rfl rfl ?_)
  refine ws (st_po (po_load rfl (by exact fc_flat_27) (by rfl)) rfl rfl rfl ?_)
  refine ws (st_po (po_move rfl) rfl rfl rfl ?_)
  refine ws (st_call (co_fn rfl rfl) (grid_Cost f.m.g t ok.g.bytes) (by infer_instance) rfl rfl rfl ?_)
  rintro v13 _ ⟨rfl, rfl⟩
  try dsimp only [List.cons_append, List.nil_append, GridS.l, GridS.p, MeshS.l, MeshS.lF, MeshS.p, FinderS.l, FinderS.p, FinderS.lF, RouteS.l, RouteS.p]
  refine ws (st_po (po_eq rfl rfl) rfl rfl rfl ?_)
  refine ws (st_po (po_pick_f rfl rfl) rfl rfl rfl ?_)
  refine s_nil ?_
  refine at_then_wp ?_
  first | refine r_dec_f rfl (cost_ne ok.g ht) ?_ | refine r_nd_f rfl (cost_ne ok.g ht) ?_ | refine r_cond_f rfl (cost_ne ok.g ht) ?_
  refine r_skip ?_
  refine at_then_wp ?_
  refine r_seq ?_
  refine r_reg ?_
  refine ws (st_po (po_move rfl) rfl rfl rfl ?_)
  refine ws (st_po (po_nil rfl) rfl rfl rfl ?_)
  refine ws (st_po (po_faddr rfl (by exact fc_field_98_0_0)) rfl rfl rfl ?_)
  refine ws (st_po (po_load rfl (by exact fc_flat_63) (by rfl)) rfl rfl rfl ?_)
  refine ws (st_call (co_fn rfl rfl) (mesh_Rebuild f.m ok) (by infer_instance) rfl rfl rfl ?_)
  rintro v20 _ ⟨m', rfl, rfl, ok', hcl, hg, hb, hpv, hcnt⟩
  try dsimp only [List.cons_append, List.nil_append, GridS.l, GridS.p, MeshS.l, MeshS.lF, MeshS.p, FinderS.l, FinderS.p, FinderS.lF, RouteS.l, RouteS.p]
  have hfr := ok'.fresh (by rw [hg]; exact hcl)
  obtain ⟨mb, mg, mpv, mps, mcl, mcn⟩ := m'
  dsimp only at hb hg hpv hcl hcnt
  subst hb hg hpv
  refine s_nil ?_
  refine at_then_wp ?_
  refine r_seq ?_
  refine r_seq ?_
  refine r_ord [] _ [(0, 1), (1, 1), (2, 1), (3, 0), (4, 1), (5, 1), (6, 1), (7, 1), (8, 1), (9, 0), (10, 1), (11, 1), (12, 0), (13, 1), (14, 1), (15, 1), (16, 1), (17, 1), (18, 1), (19, 1), (20, 0), (21, 1), (22, 1), (23, 0), (24, 1), (25, 1), (26, 1), (27, 0), (28, 2), (29, 1), (30, 1)] fc_mixed (by kernel_rfl) (fun _ h => h) ?_
  refine o_fr rfl (po_move rfl) rfl rfl rfl ?_
  refine o_fr rfl (po_nil rfl) rfl rfl rfl ?_
  refine o_fr rfl (po_faddr rfl (by exact fc_field_98_2_2)) rfl rfl rfl ?_
  refine o_rd rfl (po_load rfl (by exact fc_flat_28) (by rfl)) (by first | exact fun _ h => h | exact ent) rfl rfl rfl ?_
  refine o_fr rfl (po_peq rfl rfl (by exact fc_ptr_28)) rfl rfl rfl ?_
  refine o_fr rfl (po_bt (po_move rfl) (rfl)) rfl rfl rfl ?_
  refine o_no rfl rfl rfl rfl ?_
  refine o_no rfl rfl rfl rfl ?_
  refine o_no rfl rfl rfl rfl ?_
  refine o_nor rfl (by first | exact fun _ h => h | exact ent) rfl rfl rfl ?_
  refine o_no rfl rfl rfl rfl ?_
  refine o_no rfl rfl rfl rfl ?_
  refine o_nor rfl (by first | exact fun _ h => h | exact ent) rfl rfl rfl ?_
  refine o_no rfl rfl rfl rfl ?_
  refine o_no rfl rfl rfl rfl ?_
  refine o_fr rfl (po_pick_t rfl rfl) rfl rfl rfl ?_
  refine o_fr rfl (po_move rfl) rfl rfl rfl ?_
  refine o_no rfl rfl rfl rfl ?_
  refine o_no rfl rfl rfl rfl ?_
  refine o_no rfl rfl rfl rfl ?_
  refine o_nor rfl (by first | exact fun _ h => h | exact ent) rfl rfl rfl ?_
  refine o_no rfl rfl rfl rfl ?_
  refine o_no rfl rfl rfl rfl ?_
  refine o_nor rfl (by first | exact fun _ h => h | exact ent) rfl rfl rfl ?_
  refine o_no rfl rfl rfl rfl ?_
  refine o_no rfl rfl rfl rfl ?_
  refine o_no rfl rfl rfl rfl ?_
  refine o_nor rfl (by first | exact fun _ h => h | exact ent) rfl rfl rfl ?_
  refine o_st rfl (st_no rfl rfl rfl ?_)
  refine ⟨fun _ => (by first | exact fun _ h => h | exact ent), ?_⟩
  refine o_no rfl rfl rfl rfl ?_
  refine o_fr rfl (po_pick_t rfl rfl) rfl rfl rfl ?_
  refine o_nil ?_
  refine at_then_wp ?_
  refine r_cond_t rfl rfl ?_
  refine r_seq ?_
  refine r_reg ?_
  refine ws (st_po (po_move rfl) rfl rfl rfl ?_)
  refine ws (st_po (po_move rfl) rfl rfl rfl ?_)
  refine ws (st_po (po_move rfl) rfl rfl rfl ?_)
  refine ws (st_call (co_fn rfl rfl) (route_search ⟨f.b, ⟨f.m.b, f.m.g, f.m.pv, mps, mcl, mcn⟩, f.count⟩ (.pointer none) hfr t ht) (by infer_instance) rfl rfl rfl ?_)
  rintro v55 _ ⟨r, rfl, rfl, hgo, hep, hdl, hdr, hsd, hB⟩
  try dsimp only [List.cons_append, List.nil_append, GridS.l, GridS.p, MeshS.l, MeshS.lF, MeshS.p, FinderS.l, FinderS.p, FinderS.lF, RouteS.l, RouteS.p]
  refine ws (st_po (po_nil rfl) rfl rfl rfl ?_)
  refine ws (st_po (po_faddr rfl (by exact fc_field_98_2_2)) rfl rfl rfl ?_)
  refine ws (st_so (so_store1 rfl rfl (by exact fc_flat_28) rfl) rfl rfl ?_)
  refine s_nil ?_
  refine at_then_wp ?_
  refine r_reg ?_
  refine ws (st_po (po_move rfl) rfl rfl rfl ?_)
  refine ws (st_po (po_move rfl) rfl rfl rfl ?_)
  refine ws (st_po (po_nil rfl) rfl rfl rfl ?_)
  refine ws (st_po (po_faddr rfl (by exact fc_field_98_3_3)) rfl rfl rfl ?_)
  refine ws (st_po (po_load rfl (by exact fc_flat_96) (by rfl)) rfl rfl rfl ?_)
  refine ws (st_call (co_fn rfl rfl) (tally_Add f.count (by omega) (by omega)) (by infer_instance) rfl rfl rfl ?_)
  rintro v63 _ ⟨⟨n2, rfl, hn2⟩, rfl⟩
  try dsimp only [List.cons_append, List.nil_append, GridS.l, GridS.p, MeshS.l, MeshS.lF, MeshS.p, FinderS.l, FinderS.p, FinderS.lF, RouteS.l, RouteS.p]
  refine ws (st_po (po_nil rfl) rfl rfl rfl ?_)
  refine ws (st_po (po_faddr rfl (by exact fc_field_98_3_3)) rfl rfl rfl ?_)
  refine ws (st_so (so_store1 rfl rfl (by exact fc_flat_96) rfl) rfl rfl ?_)
  refine s_nil ?_
  refine at_then_wp ?_
  refine r_seq ?_
  refine r_reg ?_
  refine ws (st_po (po_move rfl) rfl rfl rfl ?_)
  refine ws (st_po (po_nil rfl) rfl rfl rfl ?_)
  refine ws (st_po (po_faddr rfl (by exact fc_field_98_2_2)) rfl rfl rfl ?_)
  refine ws (st_po (po_load rfl (by exact fc_flat_28) (by rfl)) rfl rfl rfl ?_)
  refine ws (st_po (po_assign rfl) rfl rfl rfl ?_)
  refine s_nil ?_
  refine at_then_wp ?_
  refine r_ret ?_
  subst hgo
  refine at_ret1 rfl (rv_tmp rfl) ⟨_, ⟨⟨f.b, ⟨f.m.b, f.m.g, f.m.pv, mps, mcl, mcn⟩, n2⟩, r, rfl, rfl, rfl, hep, route_ok (m := ⟨f.m.b, f.m.g, f.m.pv, mps, mcl, mcn⟩) hfr ht hdl hdr hsd hB, ok', rfl, rfl, rfl, hcl, rfl, hcnt, hn2⟩, ?_⟩
  try dsimp only [List.cons_append, List.nil_append, GridS.l, GridS.p, MeshS.l, MeshS.lF, MeshS.p, FinderS.l, FinderS.p, FinderS.lF, RouteS.l, RouteS.p]
  exact ent
end Hd
end
section
namespace Hd
/-! ## what a sector is told -/
def sideN (w h a b : Int) : Int := if IsC w h a ∧ IsC w h b then match (List.range 5).find? (fun (s : Nat) => decide (stepN w h a s = b)) with | some s => (s : Int) | none => 5 else 5
theorem find_first {p : Nat → Bool} {n k : Nat} (hk : k < n) (h : p k = true) (hn : ∀ j, j < k → p j = false) : (List.range n).find? p = some k := by
  rw [List.find?_eq_some_iff_getElem]
  refine ⟨h, k, by simpa using hk, by simp, fun j hj => ?_⟩
  simp only [List.getElem_range]
  rw [hn j hj]; rfl
theorem find_none {p : Nat → Bool} {n : Nat} (hn : ∀ j, j < n → p j = false) : (List.range n).find? p = none := by
  rw [List.find?_eq_none]
  intro j hj
  rw [hn j (List.mem_range.1 hj)]; decide
theorem step_inj {w h c s s' : Int} (hc : IsC w h c) (hs : 0 ≤ s ∧ s ≤ 4) (hs' : 0 ≤ s' ∧ s' ≤ 4) (h0 : 0 ≤ stepN w h c s) (e : stepN w h c s = stepN w h c s') : s = s' := by
  have h1 := (step_ok hc hs.1 hs.2).2 h0
  have h2 := (step_ok hc hs'.1 hs'.2).2 (by omega)
  rw [← e] at h2
  have a1 : dx s = dx s' := by omega
  have a2 : dy s = dy s' := by omega
  unfold dx at a1
  unfold dy at a2
  split at a1 <;> split at a1 <;> split at a2 <;> split at a2 <;> (repeat' split at a1) <;> (repeat' split at a2) <;> omega
theorem side_step {w h c s : Int} (hc : IsC w h c) (hs : 0 ≤ s ∧ s ≤ 4) (h0 : 0 ≤ stepN w h c s) : sideN w h c (stepN w h c s) = s := by
  have h1 := ((step_ok hc hs.1 hs.2).2 h0).1
  unfold sideN
  rw [if_pos ⟨hc, h1⟩]
  cases e : (List.range 5).find? (fun (x : Nat) => decide (stepN w h c x = stepN w h c s)) with
  | none =>
    rw [List.find?_eq_none] at e
    have := e s.toNat (List.mem_range.2 (by omega))
    rw [Int.toNat_of_nonneg hs.1] at this
    exact absurd (decide_eq_true rfl) this
  | some x =>
    have h2 := List.find?_some e
    have h3 := List.mem_range.1 (List.mem_of_find?_eq_some e)
    simp only [decide_eq_true_eq] at h2
    show (x : Int) = s
    exact step_inj hc ⟨by omega, by omega⟩ hs (by rw [h2]; exact h0) h2
def seedE (w h : Int) (A : Int → Int) (c : Int) (e : Edg) : List Seed := if A e.to ≠ INF then [⟨localN w h c, sideN w h c e.to, e.cost + A e.to⟩] else []
def seedC (w h : Int) (C : List Int) (A : Int → Int) (c : Int) : List Seed := (crossN w h C c).flatMap (seedE w h A c)
def seedsO (w h : Int) (C : List Int) (A : Int → Int) (i : Int) : List Seed := (nodesN w h C i).flatMap (seedC w h C A)
def seedsG (w h : Int) (C : List Int) (A : Int → Int) (t i : Int) : List Seed := seedsO w h C A i ++ if sectorN w h t = i ∧ costN C t ≠ 255 then [⟨localN w h t, 4, 0⟩] else []
theorem flat_snoc {α β : Type} (f : α → List β) (l : List α) (k : Nat) (h : k < l.length) : (l.take (k + 1)).flatMap f = (l.take k).flatMap f ++ f l[k] := by
  rw [take_snoc l k h, List.flatMap_append]; simp
theorem flat_le {α β : Type} (f : α → List β) (K : Nat) (hf : ∀ a, (f a).length ≤ K) : ∀ l : List α, (l.flatMap f).length ≤ K * l.length
  | [] => by simp
  | a :: l => by
    rw [List.flatMap_cons, List.length_append, List.length_cons, Nat.mul_succ]
    have := hf a
    have := flat_le f K hf l
    omega
theorem seedE_len (w h : Int) (A : Int → Int) (c : Int) (e : Edg) : (seedE w h A c e).length ≤ 1 := by unfold seedE; split <;> simp
theorem crossN_len (w h : Int) (C : List Int) (c : Int) : (crossN w h C c).length ≤ 4 := by
  unfold crossN; split
  · exact crossTo_len w h C c 4
  · simp
theorem seedC_len (w h : Int) (C : List Int) (A : Int → Int) (c : Int) : (seedC w h C A c).length ≤ 4 := by
  have := flat_le (seedE w h A c) 1 (seedE_len w h A c) (crossN w h C c)
  have := crossN_len w h C c
  unfold seedC; omega
theorem seedsO_len (w h : Int) (C : List Int) (A : Int → Int) (i : Int) : (seedsO w h C A i).length ≤ 1024 := by
  have := flat_le (seedC w h C A) 4 (seedC_len w h C A) (nodesN w h C i)
  have := nodes_len w h C i
  unfold seedsO; omega
theorem seedsG_len (w h : Int) (C : List Int) (A : Int → Int) (t i : Int) : (seedsG w h C A t i).length ≤ 1025 := by
  have := seedsO_len w h C A i
  unfold seedsG
  rw [List.length_append]
  split <;> simp <;> omega
theorem mem_cross {g : GridS} (ok : GridOk g) {c : Int} (hc : OpC g.w g.h g.c c) {e : Edg} : e ∈ crossN g.w g.h g.c c ↔ ∃ k : Int, (0 ≤ k ∧ k < 4) ∧ OpC g.w g.h g.c (stepN g.w g.h c k) ∧ sectorN g.w g.h (stepN g.w g.h c k) ≠ sectorN g.w g.h c ∧ e = ⟨stepN g.w g.h c k, gAt g.c (stepN g.w g.h c k)⟩ := by
  unfold crossN crossTo
  rw [if_pos ((open_iff ok).2 hc.1), List.mem_flatMap]
  constructor
  · rintro ⟨j, hj, he⟩
    have hj := List.mem_range.1 hj
    split at he
    · rename_i h1
      have h2 := over_ge.1 h1.1
      have h3 := over_eq h1.1
      have h4 := (open_iff ok).1 h1.2
      rw [List.mem_singleton] at he
      rw [h3] at h4 he
      have h5 := opn_isC ok h4
      rw [cost_opn ok h5] at he
      exact ⟨j, by omega, ⟨h4, h5⟩, h2.2, he⟩
    · cases he
  · rintro ⟨k, hk, h1, h2, h3⟩
    refine ⟨k.toNat, List.mem_range.2 (by omega), ?_⟩
    rw [Int.toNat_of_nonneg hk.1]
    have h4 : 0 ≤ overN g.w g.h c k := over_ge.2 ⟨h1.1.1, h2⟩
    have h5 := over_eq h4
    rw [if_pos ⟨h4, by rw [h5]; exact (open_iff ok).2 h1.1⟩, h5, List.mem_singleton, cost_opn ok h1.2]
    exact h3
/-- what the border tells -/
theorem mem_seedsO {g : GridS} (ok : GridOk g) {A : Int → Int} {i : Int} (hi : IsS g.w g.h i) {s : Seed} : s ∈ seedsO g.w g.h g.c A i ↔
    ∃ c k : Int, OpC g.w g.h g.c c ∧ sectorN g.w g.h c = i ∧ (0 ≤ k ∧ k < 4) ∧ OpC g.w g.h g.c (stepN g.w g.h c k) ∧ sectorN g.w g.h (stepN g.w g.h c k) ≠ i ∧ A (stepN g.w g.h c k) ≠ INF ∧ s = ⟨localN g.w g.h c, k, gAt g.c (stepN g.w g.h c k) + A (stepN g.w g.h c k)⟩ := by
  unfold seedsO seedC
  rw [List.mem_flatMap]
  constructor
  · rintro ⟨c, hc, hs⟩
    obtain ⟨⟨hco, _⟩, hci⟩ := (mem_nodes ok hi).1 hc
    rw [List.mem_flatMap] at hs
    obtain ⟨e, he, hs⟩ := hs
    obtain ⟨k, hk, h1, h2, rfl⟩ := (mem_cross ok hco).1 he
    unfold seedE at hs
    dsimp only at hs
    split at hs
    · rename_i h3
      rw [List.mem_singleton, side_step hco.2 ⟨hk.1, by omega⟩ h1.1.1] at hs
      exact ⟨c, k, hco, hci, hk, h1, by rw [← hci]; exact h2, h3, hs⟩
    · cases hs
  · rintro ⟨c, k, hc, hci, hk, h1, h2, h3, rfl⟩
    have hst : 0 ≤ stepN g.w g.h c k := h1.1.1
    refine ⟨c, (mem_nodes ok hi).2 ⟨⟨hc, k, hk, hst, by rw [hci]; exact h2⟩, hci⟩, ?_⟩
    rw [List.mem_flatMap]
    refine ⟨_, (mem_cross ok hc).2 ⟨k, hk, h1, by rw [hci]; exact h2, rfl⟩, ?_⟩
    unfold seedE
    dsimp only
    rw [if_pos h3, side_step hc.2 ⟨hk.1, by omega⟩ hst]
    exact List.mem_singleton.2 rfl
/-- cell and side are those of one seed alone -/
theorem seedsO_pw {g : GridS} (ok : GridOk g) {A : Int → Int} {i : Int} (hi : IsS g.w g.h i) : (seedsO g.w g.h g.c A i).Pairwise fun x y => ¬ (x.cell = y.cell ∧ x.side = y.side) := by
  have hside : ∀ c, c ∈ nodesN g.w g.h g.c i → ∀ x, x ∈ seedC g.w g.h g.c A c → x.cell = localN g.w g.h c := by
    intro c _ x hx
    unfold seedC at hx
    obtain ⟨e, _, hx⟩ := List.mem_flatMap.1 hx
    unfold seedE at hx
    split at hx
    · rw [List.mem_singleton] at hx; rw [hx]
    · cases hx
  unfold seedsO
  rw [List.pairwise_flatMap]
  constructor
  · intro c hc
    obtain ⟨⟨hco, _⟩, hci⟩ := (mem_nodes ok hi).1 hc
    unfold seedC crossN
    rw [if_pos ((open_iff ok).2 hco.1)]
    unfold crossTo
    rw [List.flatMap_assoc, List.pairwise_flatMap]
    have hsd : ∀ j : Nat, j < 4 → ∀ x, x ∈ (if 0 ≤ overN g.w g.h c j ∧ openN g.c (overN g.w g.h c j) then [(⟨overN g.w g.h c j, costN g.c (overN g.w g.h c j)⟩ : Edg)] else []).flatMap (seedE g.w g.h A c) → x.side = j := by
      intro j hj x hx
      split at hx
      · rename_i h1
        rw [List.flatMap_cons, List.flatMap_nil, List.append_nil] at hx
        unfold seedE at hx
        dsimp only at hx
        split at hx
        · rw [List.mem_singleton, over_eq h1.1, side_step hco.2 (s := j) ⟨by omega, by omega⟩ (over_ge.1 h1.1).1] at hx
          rw [hx]
        · cases hx
      · cases hx
    constructor
    · intro j hj
      split
      · rw [List.flatMap_cons, List.flatMap_nil, List.append_nil]; unfold seedE; split <;> simp
      · simp
    · refine List.Pairwise.imp_of_mem (fun {a b} ha hb hab x hx y hy h => ?_) (List.pairwise_lt_range (n := 4))
      have h1 := hsd a (List.mem_range.1 ha) x hx
      have h2 := hsd b (List.mem_range.1 hb) y hy
      have := h.2
      omega
  · have hr := nodes_rising (c := g.c) hi
    rw [List.pairwise_iff_getElem]
    intro a b ha hb hab x hx y hy h
    have h1 := hside _ (List.getElem_mem ha) x hx
    have h2 := hside _ (List.getElem_mem hb) y hy
    have m1 := (mem_nodes ok hi).1 (List.getElem_mem ha)
    have m2 := (mem_nodes ok hi).1 (List.getElem_mem hb)
    have g1 := global_local m1.1.1.2
    have g2 := global_local m2.1.1.2
    have := hr a b ha hb hab
    rw [m1.2, ← h1, h.1, h2] at g1
    rw [m2.2] at g2
    omega
theorem seedsG_pw {g : GridS} (ok : GridOk g) {A : Int → Int} {t i : Int} (hi : IsS g.w g.h i) : (seedsG g.w g.h g.c A t i).Pairwise fun x y => ¬ (x.cell = y.cell ∧ x.side = y.side) := by
  unfold seedsG
  split
  · rw [List.pairwise_append]
    refine ⟨seedsO_pw ok hi, by simp, fun x hx y hy h => ?_⟩
    rw [List.mem_singleton] at hy
    obtain ⟨c, k, _, _, hk, _, _, _, rfl⟩ := (mem_seedsO ok hi).1 hx
    have := h.2
    rw [hy] at this
    dsimp only at this; omega
  · rw [List.append_nil]; exact seedsO_pw ok hi
theorem seedsG_nodup {g : GridS} (ok : GridOk g) {A : Int → Int} {t i : Int} (hi : IsS g.w g.h i) : (seedsG g.w g.h g.c A t i).Nodup :=
  List.Pairwise.imp (fun {x y} h e => h (by rw [e]; exact ⟨rfl, rfl⟩)) (seedsG_pw ok hi)
theorem nodes_none {w h : Int} {C : List Int} {i : Int} (hi : ¬ IsS w h i) : nodesN w h C i = [] := by
  unfold nodesN cellsN cellsTo sizeN
  rw [if_neg hi]; rfl
theorem seedsG_none {w h : Int} {C : List Int} {A : Int → Int} {t i : Int} (ht : IsC w h t) (hi : ¬ IsS w h i) : seedsG w h C A t i = [] := by
  unfold seedsG seedsO
  rw [nodes_none hi, if_neg (fun h => hi (by rw [← h.1]; exact (sector_lt ht).1))]; rfl
end Hd
end
section
namespace Hd
set_option maxRecDepth 100000
open Go
abbrev GridS.lT (s : GridS) (T : List HP) : List HP := Blk s.b 81 [.int .i64 s.w, .int .i64 s.h, s.cv, .int .i64 s.ep, s.vv] :: Sl eB s.cv s.c :: Sl eL s.vv s.vs :: T
abbrev RouteS.lT (r : RouteS) (T : List HP) : List HP := Blk r.b 84 [.int .i64 r.goal, .int .i64 r.ep, r.dv] :: Sl eW r.dv r.dist :: T

theorem where_Side (w h a b : Int) : Spec PP 44 #[.int .i64 w, .int .i64 h, .int .i64 a, .int .i64 b] [] (fun v M => v = .int .i64 (sideN w h a b) ∧ M = []) := by
  refine spec_of (Go.Proofs.Tryz.func44) rfl rfl rfl (by exact fc_enters_44) ?_
  intro g F
  try dsimp only [List.cons_append, List.nil_append, GridS.l, GridS.p, RouteS.l, RouteS.p, GridS.lT, RouteS.lT]
  by_cases ha : IsC w h a
  · skip
    refine r_seq ?_
    refine r_reg ?_
    refine ws (st_po (po_assign rfl) rfl rfl rfl ?_)
    refine s_nil ?_
    refine at_then_wp ?_
    refine r_seq ?_
    refine r_seq ?_
    refine r_reg ?_
    refine ws (st_po (po_move rfl) rfl rfl rfl ?_)
    refine ws (st_po (po_move rfl) rfl rfl rfl ?_)
    refine ws (st_po (po_move rfl) rfl rfl rfl ?_)
    refine ws (st_call (co_fn rfl rfl) (where_is w h a) (by infer_instance) rfl rfl rfl ?_)
    rintro v13 _ ⟨rfl, rfl⟩
    try dsimp only [List.cons_append, List.nil_append, GridS.l, GridS.p, RouteS.l, RouteS.p, GridS.lT, RouteS.lT]
    refine ws (st_po (po_not rfl) rfl rfl rfl ?_)
    refine ws (st_po (po_bf (po_move rfl) (by simp [ha])) rfl rfl rfl ?_)
    refine ws (st_po (po_move rfl) rfl rfl rfl ?_)
    refine ws (st_po (po_move rfl) rfl rfl rfl ?_)
    refine ws (st_po (po_move rfl) rfl rfl rfl ?_)
    refine ws (st_call (co_fn rfl rfl) (where_is w h b) (by infer_instance) rfl rfl rfl ?_)
    rintro v19 _ ⟨rfl, rfl⟩
    try dsimp only [List.cons_append, List.nil_append, GridS.l, GridS.p, RouteS.l, RouteS.p, GridS.lT, RouteS.lT]
    refine ws (st_po (po_not rfl) rfl rfl rfl ?_)
    refine ws (st_po (po_pick_f rfl rfl) rfl rfl rfl ?_)
    refine s_nil ?_
    refine at_then_wp ?_
    first | refine r_cond_not rfl ?_ ?_ | refine r_cond_dec rfl ?_ ?_ | refine r_cond rfl ?_ ?_
    · intro hb
      refine r_seq ?_
      refine r_reg ?_
      refine ws (st_po (po_assign rfl) rfl rfl rfl ?_)
      refine s_nil ?_
      refine at_then_wp ?_
      refine r_ret ?_
      refine at_then_ret ?_
      refine at_ret1 rfl (rv_tmp rfl) ⟨_, ⟨by rw [sideN, if_neg (fun k => hb k.2)], rfl⟩, ?_⟩
      try dsimp only [List.cons_append, List.nil_append, GridS.l, GridS.p, RouteS.l, RouteS.p, GridS.lT, RouteS.lT]
      exact ent
    · intro hb
      refine r_skip ?_
      refine at_then_wp ?_
      refine r_seq ?_
      refine r_seq ?_
      refine r_reg ?_
      refine ws (st_po (po_assign rfl) rfl rfl rfl ?_)
      refine s_nil ?_
      refine at_then_wp ?_
      refine r_block ?_
      refine r_loop (S := Nat) (fun k => [(9, .int .i64 k)]) [(0, _), (1, _), (2, _), (3, _)] (fun k => [F]) (fun k => k ≤ 5 ∧ ∀ j : Nat, j < k → stepN w h a j ≠ b) (fun k => 5 - k) (0) (And.intro rfl (And.intro rfl (And.intro rfl (And.intro rfl (trivial))))) (And.intro rfl (trivial)) (⟨by omega, fun j h => by omega⟩) ent ?_
      rintro k ⟨hk, hne⟩
      try dsimp only [List.cons_append, List.nil_append, GridS.l, GridS.p, RouteS.l, RouteS.p, GridS.lT, RouteS.lT]
      refine r_seq ?_
      refine r_seq ?_
      refine r_reg ?_
      refine ws (st_po (po_move rfl) rfl rfl rfl ?_)
      refine ws (st_po (po_le rfl rfl) rfl rfl rfl ?_)
      refine s_nil ?_
      refine at_then_wp ?_
      first | refine r_cond_not rfl ?_ ?_ | refine r_cond_dec rfl ?_ ?_ | refine r_cond rfl ?_ ?_
      · intro hk4
        refine r_skip ?_
        refine at_then_wp ?_
        refine r_seq ?_
        refine r_block ?_
        refine r_seq ?_
        refine r_reg ?_
        refine ws (st_po (po_move rfl) rfl rfl rfl ?_)
        refine ws (st_po (po_move rfl) rfl rfl rfl ?_)
        refine ws (st_po (po_move rfl) rfl rfl rfl ?_)
        refine ws (st_po (po_move rfl) rfl rfl rfl ?_)
        refine ws (st_call (co_fn rfl rfl) (where_Step w h a k) (by infer_instance) rfl rfl rfl ?_)
        rintro v30 _ ⟨rfl, rfl⟩
        try dsimp only [List.cons_append, List.nil_append, GridS.l, GridS.p, RouteS.l, RouteS.p, GridS.lT, RouteS.lT]
        refine ws (st_po (po_move rfl) rfl rfl rfl ?_)
        refine ws (st_po (po_eq rfl rfl) rfl rfl rfl ?_)
        refine s_nil ?_
        refine at_then_wp ?_
        first | refine r_cond_not rfl ?_ ?_ | refine r_cond_dec rfl ?_ ?_ | refine r_cond rfl ?_ ?_
        · intro heq
          refine r_seq ?_
          refine r_reg ?_
          refine ws (st_po (po_move rfl) rfl rfl rfl ?_)
          refine ws (st_po (po_assign rfl) rfl rfl rfl ?_)
          refine s_nil ?_
          refine at_then_wp ?_
          refine r_ret ?_
          refine at_block_ret ?_
          refine at_then_ret ?_
          refine at_then_ret ?_
          refine at_block_ret ?_
          refine at_then_ret ?_
          refine at_ret1 rfl (rv_tmp rfl) ⟨_, ⟨by rw [sideN, if_pos ⟨ha, hb⟩, find_first (k := k) (by omega) (decide_eq_true heq) (fun j hj => decide_eq_false (hne j hj))], rfl⟩, ?_⟩
          try dsimp only [List.cons_append, List.nil_append, GridS.l, GridS.p, RouteS.l, RouteS.p, GridS.lT, RouteS.lT]
          exact ent
        · intro heq
          refine r_skip ?_
          refine at_block_normal ?_
          refine at_then_wp ?_
          refine r_reg ?_
          refine ws (st_po (po_move rfl) rfl rfl rfl ?_)
          refine ws (st_po (po_add' rfl rfl (by omega) (by omega)) rfl rfl rfl ?_)
          refine ws (st_po (po_assign rfl) rfl rfl rfl ?_)
          refine s_nil ?_
          exact at_again (k + 1) (And.intro rfl (trivial)) (And.intro rfl (And.intro rfl (And.intro rfl (And.intro rfl (trivial))))) (⟨by omega, fun j hj => by by_cases e : j = k; (subst e; exact heq); exact hne j (by omega)⟩) (by omega) ent
      · intro hk4
        refine r_exit ?_
        refine at_then_exit ?_
        refine at_then_exit ?_
        refine at_block_here ?_
        refine at_then_wp ?_
        refine r_seq ?_
        refine r_reg ?_
        refine ws (st_po (po_assign rfl) rfl rfl rfl ?_)
        refine s_nil ?_
        refine at_then_wp ?_
        refine r_ret ?_
        refine at_ret1 rfl (rv_tmp rfl) ⟨_, ⟨by rw [sideN, if_pos ⟨ha, hb⟩, find_none (fun j hj => decide_eq_false (hne j (by omega)))], rfl⟩, ?_⟩
        try dsimp only [List.cons_append, List.nil_append, GridS.l, GridS.p, RouteS.l, RouteS.p, GridS.lT, RouteS.lT]
        exact ent
  · skip
    refine r_seq ?_
    refine r_reg ?_
    refine ws (st_po (po_assign rfl) rfl rfl rfl ?_)
    refine s_nil ?_
    refine at_then_wp ?_
    refine r_seq ?_
    refine r_seq ?_
    refine r_reg ?_
    refine ws (st_po (po_move rfl) rfl rfl rfl ?_)
    refine ws (st_po (po_move rfl) rfl rfl rfl ?_)
    refine ws (st_po (po_move rfl) rfl rfl rfl ?_)
    refine ws (st_call (co_fn rfl rfl) (where_is w h a) (by infer_instance) rfl rfl rfl ?_)
    rintro v13 _ ⟨rfl, rfl⟩
    try dsimp only [List.cons_append, List.nil_append, GridS.l, GridS.p, RouteS.l, RouteS.p, GridS.lT, RouteS.lT]
    refine ws (st_po (po_not rfl) rfl rfl rfl ?_)
    refine ws (st_po (po_bt (po_move rfl) (by simp [ha])) rfl rfl rfl ?_)
    refine ws (st_no rfl rfl rfl ?_)
    refine ws (st_no rfl rfl rfl ?_)
    refine ws (st_no rfl rfl rfl ?_)
    refine ws (st_no rfl rfl rfl ?_)
    refine ws (st_no rfl rfl rfl ?_)
    refine ws (st_po (po_pick_t rfl rfl) rfl rfl rfl ?_)
    refine s_nil ?_
    refine at_then_wp ?_
    refine r_cond_t rfl rfl ?_
    refine r_seq ?_
    refine r_reg ?_
    refine ws (st_po (po_assign rfl) rfl rfl rfl ?_)
    refine s_nil ?_
    refine at_then_wp ?_
    refine r_ret ?_
    refine at_then_ret ?_
    refine at_ret1 rfl (rv_tmp rfl) ⟨_, ⟨by rw [sideN, if_neg (fun k => ha k.1)], rfl⟩, ?_⟩
    try dsimp only [List.cons_append, List.nil_append, GridS.l, GridS.p, RouteS.l, RouteS.p, GridS.lT, RouteS.lT]
    exact ent

theorem cross_cost {s : GridS} (ok : GridOk s) {c : Int} {e : Edg} (h : e ∈ crossN s.w s.h s.c c) : 0 ≤ e.cost ∧ e.cost ≤ 255 := by
  unfold crossN at h
  split at h
  · unfold crossTo at h
    obtain ⟨j, _, h⟩ := List.mem_flatMap.1 h
    split at h
    · rw [List.mem_singleton] at h
      rename_i ho
      have := (open_iff ok).1 ho.2
      have := opn_cost ok this
      rw [h]; dsimp only; rw [cost_opn ok (opn_isC ok ‹_›)]; omega
    · cases h
  · cases h
theorem atN_rng (r : RouteS) (hr : ∀ x ∈ r.dist, 0 ≤ x ∧ x ≤ 2147483647) (c : Int) : 0 ≤ atN r c ∧ (atN r c = 1099511627776 ∨ atN r c < 2147483647) := by
  unfold atN
  split
  · rename_i h
    have := hr _ (List.getElem_mem (show c.toNat < r.dist.length by omega))
    rw [← gAt_get] at this
    omega
  · omega
theorem inject_Seeds (s : GridS) (ok : GridOk s) (r : RouteS) (hr : ∀ x ∈ r.dist, 0 ≤ x ∧ x ≤ 2147483647) (hep : r.ep = s.ep) (ht : IsC s.w s.h r.goal) (i : Int) :
    Spec PP 16 #[s.p, r.p, .int .i64 i] (s.lT r.l) (fun v M => ∃ ys, M = s.l ++ r.l ++ [Sl eS v ys] ∧ ys.Perm (seedsG s.w s.h s.c (atN r) r.goal i) ∧ ys.Pairwise fun x y => ordI x y < 0) := by
  have hnl := nodes_len s.w s.h s.c i
  have hnd : (seedsG s.w s.h s.c (atN r) r.goal i).Nodup := by
    by_cases hi : IsS s.w s.h i
    · exact seedsG_nodup ok hi
    · rw [seedsG_none ht hi]; exact .nil
  have hGl := seedsG_len s.w s.h s.c (atN r) r.goal i
  refine spec_of (Go.Proofs.Tryz.func16) rfl rfl rfl (by exact fc_enters_16) ?_
  intro g F
  try dsimp only [List.cons_append, List.nil_append, GridS.l, GridS.p, RouteS.l, RouteS.p, GridS.lT, RouteS.lT]
  refine r_seq ?_
  refine r_reg ?_
  refine ws (st_po (po_assign rfl) rfl rfl rfl ?_)
  refine s_nil ?_
  refine at_then_wp ?_
  refine r_seq ?_
  refine r_reg ?_
  refine ws (st_po (po_move rfl) rfl rfl rfl ?_)
  refine ws (st_call (co_fn rfl rfl) (grid_Size s) (by infer_instance) rfl rfl rfl ?_)
  rintro v18 _ ⟨rfl, rfl⟩
  try dsimp only [List.cons_append, List.nil_append, GridS.l, GridS.p, RouteS.l, RouteS.p, GridS.lT, RouteS.lT]
  refine ws (st_po (po_move rfl) rfl rfl rfl ?_)
  refine ws (st_po (po_extract rfl rfl) rfl rfl rfl ?_)
  refine ws (st_po (po_extract rfl rfl) rfl rfl rfl ?_)
  refine ws (st_po (po_assign rfl) rfl rfl rfl ?_)
  refine ws (st_po (po_assign rfl) rfl rfl rfl ?_)
  refine s_nil ?_
  refine at_then_wp ?_
  refine r_seq ?_
  refine r_seq ?_
  refine r_reg ?_
  refine ws (st_po (po_move rfl) rfl rfl rfl ?_)
  refine ws (st_po (po_peq rfl rfl (by exact fc_ptr_28)) rfl rfl rfl ?_)
  refine ws (st_po (po_bf (po_move rfl) (rfl)) rfl rfl rfl ?_)
  refine ws (st_po (po_move rfl) rfl rfl rfl ?_)
  refine ws (st_call (co_fn rfl rfl) (route_Epoch r) (by infer_instance) rfl rfl rfl ?_)
  rintro v25 _ ⟨rfl, rfl⟩
  try dsimp only [List.cons_append, List.nil_append, GridS.l, GridS.p, RouteS.l, RouteS.p, GridS.lT, RouteS.lT]
  refine ws (st_po (po_move rfl) rfl rfl rfl ?_)
  refine ws (st_call (co_fn rfl rfl) (grid_Epoch s) (by infer_instance) rfl rfl rfl ?_)
  rintro v27 _ ⟨rfl, rfl⟩
  try dsimp only [List.cons_append, List.nil_append, GridS.l, GridS.p, RouteS.l, RouteS.p, GridS.lT, RouteS.lT]
  refine ws (st_po (po_ne rfl rfl) rfl rfl rfl ?_)
  refine ws (st_po (po_pick_f rfl rfl) rfl rfl rfl ?_)
  refine s_nil ?_
  refine at_then_wp ?_
  first | refine r_dec_f rfl (by simp [hep]) ?_ | refine r_nd_f rfl (by simp [hep]) ?_ | refine r_cond_f rfl (by simp [hep]) ?_
  refine r_skip ?_
  refine at_then_wp ?_
  refine r_seq ?_
  refine r_reg ?_
  refine ws (st_po (po_assign rfl) rfl rfl rfl ?_)
  refine s_nil ?_
  refine at_then_wp ?_
  refine r_seq ?_
  refine r_seq ?_
  refine r_reg ?_
  refine ws (st_po (po_move rfl) rfl rfl rfl ?_)
  refine ws (st_po (po_move rfl) rfl rfl rfl ?_)
  refine ws (st_call (co_fn rfl rfl) (border_Nodes s i ok.bytes) (by infer_instance) rfl rfl rfl ?_)
  rintro v32 _ rfl
  try dsimp only [List.cons_append, List.nil_append, GridS.l, GridS.p, RouteS.l, RouteS.p, GridS.lT, RouteS.lT]
  refine ws (st_po (po_len rfl (by exact fc_slice_35_3_1)) rfl rfl rfl ?_)
  refine ws (st_po (po_move rfl) rfl rfl rfl ?_)
  refine s_nil ?_
  refine at_then_wp ?_
  refine r_block ?_
  refine r_loop (S := Nat × Value × List Seed) (fun ⟨k, ov, xs⟩ => [(9, ov), (34, .int .i64 k)]) [(0, _), (1, _), (2, _), (7, _), (8, _), (32, _), (33, _)] (fun ⟨k, ov, xs⟩ => Sl eI v32 (nodesN s.w s.h s.c i) :: Sl eS ov xs :: s.lT (r.lT [F])) (fun ⟨k, ov, xs⟩ => k ≤ (nodesN s.w s.h s.c i).length ∧ xs = ((nodesN s.w s.h s.c i).take k).flatMap (seedC s.w s.h s.c (atN r))) (fun ⟨k, ov, xs⟩ => (nodesN s.w s.h s.c i).length - k) ((0, .slice none 0 0, [])) (And.intro rfl (And.intro rfl (And.intro rfl (And.intro rfl (And.intro rfl (And.intro rfl (And.intro rfl (trivial)))))))) (And.intro rfl (And.intro rfl (trivial))) (⟨by omega, rfl⟩) ent ?_
  rintro ⟨k, ov, xs⟩ ⟨hk, hxs⟩
  try dsimp only [List.cons_append, List.nil_append, GridS.l, GridS.p, RouteS.l, RouteS.p, GridS.lT, RouteS.lT]
  refine r_seq ?_
  refine r_reg ?_
  refine ws (st_po (po_lt rfl rfl) rfl rfl rfl ?_)
  refine s_nil ?_
  refine at_then_wp ?_
  refine r_seq ?_
  first | refine r_cond_not rfl ?_ ?_ | refine r_cond_dec rfl ?_ ?_ | refine r_cond rfl ?_ ?_
  · intro hlt
    have hkl : k < (nodesN s.w s.h s.c i).length := by omega
    obtain ⟨c, hce⟩ : ∃ c, (nodesN s.w s.h s.c i)[(k : Int).toNat]'(by omega) = c := ⟨_, rfl⟩
    have hce' : (nodesN s.w s.h s.c i)[k] = c := hce
    have hxl : xs.length ≤ 4 * k := by rw [hxs]; have := flat_le (seedC s.w s.h s.c (atN r)) 4 (seedC_len s.w s.h s.c (atN r)) ((nodesN s.w s.h s.c i).take k); rw [List.length_take] at this; omega
    refine r_skip ?_
    refine at_then_wp ?_
    refine r_seq ?_
    refine r_block ?_
    refine r_seq ?_
    refine r_reg ?_
    refine ws (st_po (po_iaddr rfl rfl (by exact fc_slice_35_3_1) (by first | omega | (simp only [List.length_nil, List.length_cons, List.length_append, List.length_replicate, List.length_set, List.length_map, List.length_take, List.length_drop]; omega)) (by first | omega | (simp only [List.length_nil, List.length_cons, List.length_append, List.length_replicate, List.length_set, List.length_map, List.length_take, List.length_drop]; omega))) rfl rfl rfl ?_)
    refine ws (st_po (po_load_sl rfl (List.getElem?_eq_getElem (by first | omega | (simp only [List.length_nil, List.length_cons, List.length_append, List.length_replicate, List.length_set, List.length_map, List.length_take, List.length_drop]; omega))) (by exact fc_flat_3) (by rfl)) rfl rfl rfl ?_)
    refine ws (st_po (po_assign rfl) rfl rfl rfl ?_)
    refine s_nil ?_
    refine at_then_wp ?_
    refine r_seq ?_
    rw [hce]
    refine r_reg ?_
    refine ws (st_po (po_move rfl) rfl rfl rfl ?_)
    refine ws (st_po (po_move rfl) rfl rfl rfl ?_)
    refine ws (st_call (co_fn rfl rfl) (border_Cross s c ok.bytes) (by infer_instance) rfl rfl rfl ?_)
    rintro v40 _ rfl
    try dsimp only [List.cons_append, List.nil_append, GridS.l, GridS.p, RouteS.l, RouteS.p, GridS.lT, RouteS.lT]
    have hcl := crossN_len s.w s.h s.c c
    refine ws (st_po (po_len rfl (by exact fc_slice_73_76_2)) rfl rfl rfl ?_)
    refine ws (st_po (po_move rfl) rfl rfl rfl ?_)
    refine s_nil ?_
    refine at_then_wp ?_
    refine r_block ?_
    refine r_loop (S := Nat × Value × List Seed) (fun ⟨j, ov, zs⟩ => [(9, ov), (42, .int .i64 j)]) [(0, _), (1, _), (2, _), (7, _), (8, _), (11, _), (32, _), (33, _), (34, _), (40, _), (41, _)] (fun ⟨j, ov, zs⟩ => Sl eI v32 (nodesN s.w s.h s.c i) :: Sl eE v40 (crossN s.w s.h s.c c) :: Sl eS ov zs :: s.lT (r.lT [F])) (fun ⟨j, ov, zs⟩ => j ≤ (crossN s.w s.h s.c c).length ∧ zs = xs ++ ((crossN s.w s.h s.c c).take j).flatMap (seedE s.w s.h (atN r) c)) (fun ⟨j, ov, zs⟩ => (crossN s.w s.h s.c c).length - j) ((0, ov, xs)) (And.intro rfl (And.intro rfl (And.intro rfl (And.intro rfl (And.intro rfl (And.intro rfl (And.intro rfl (And.intro rfl (And.intro rfl (And.intro rfl (And.intro rfl (trivial)))))))))))) (And.intro rfl (And.intro rfl (trivial))) (⟨by omega, by simp⟩) ent ?_
    rintro ⟨j, ov, zs⟩ ⟨hj, hzs⟩
    try dsimp only [List.cons_append, List.nil_append, GridS.l, GridS.p, RouteS.l, RouteS.p, GridS.lT, RouteS.lT]
    refine r_seq ?_
    refine r_reg ?_
    refine ws (st_po (po_lt rfl rfl) rfl rfl rfl ?_)
    refine s_nil ?_
    refine at_then_wp ?_
    refine r_seq ?_
    first | refine r_cond_not rfl ?_ ?_ | refine r_cond_dec rfl ?_ ?_ | refine r_cond rfl ?_ ?_
    · intro hlt2
      have hjl : j < (crossN s.w s.h s.c c).length := by omega
      obtain ⟨e, hee⟩ : ∃ e, (crossN s.w s.h s.c c)[(j : Int).toNat]'(by omega) = e := ⟨_, rfl⟩
      have hee' : (crossN s.w s.h s.c c)[j] = e := hee
      have hzl : zs.length ≤ xs.length + j := by rw [hzs, List.length_append]; have := flat_le (seedE s.w s.h (atN r) c) 1 (seedE_len s.w s.h (atN r) c) ((crossN s.w s.h s.c c).take j); rw [List.length_take] at this; omega
      have hec : 0 ≤ e.cost ∧ e.cost ≤ 255 := cross_cost ok (c := c) (hee' ▸ List.getElem_mem hjl)
      have hat := atN_rng r hr e.to
      have hI : INF = 1099511627776 := rfl
      refine r_skip ?_
      refine at_then_wp ?_
      refine r_joink (S := Value × List Seed) (fun ⟨ov, zs2⟩ => [(9, ov)]) [(0, _), (1, _), (2, _), (7, _), (8, _), (11, _), (32, _), (33, _), (34, _), (40, _), (41, _), (42, _)] (fun ⟨ov, zs2⟩ => Sl eI v32 (nodesN s.w s.h s.c i) :: Sl eE v40 (crossN s.w s.h s.c c) :: Sl eS ov zs2 :: s.lT (r.lT [F])) (fun ⟨ov, zs2⟩ => zs2 = zs ++ seedE s.w s.h (atN r) c e) (And.intro rfl (And.intro rfl (And.intro rfl (And.intro rfl (And.intro rfl (And.intro rfl (And.intro rfl (And.intro rfl (And.intro rfl (And.intro rfl (And.intro rfl (And.intro rfl (trivial))))))))))))) ?_ ?_
      · skip
        refine r_block ?_
        refine r_seq ?_
        refine r_reg ?_
        refine ws (st_po (po_iaddr rfl rfl (by exact fc_slice_73_76_2) (by first | omega | (simp only [List.length_nil, List.length_cons, List.length_append, List.length_replicate, List.length_set, List.length_map, List.length_take, List.length_drop]; omega)) (by first | omega | (simp only [List.length_nil, List.length_cons, List.length_append, List.length_replicate, List.length_set, List.length_map, List.length_take, List.length_drop]; omega))) rfl rfl rfl ?_)
        refine ws (st_po (ld_eE rfl (List.getElem?_eq_getElem (by first | omega | (simp only [List.length_nil, List.length_cons, List.length_append, List.length_replicate, List.length_set, List.length_map, List.length_take, List.length_drop]; omega))) (by exact fc_agg_76_2)) rfl rfl rfl ?_)
        refine ws (st_xo (xo_alloc (by exact fc_zero_76)) rfl rfl rfl ?_)
        rintro _ _ ⟨b13, rfl, rfl⟩
        refine ws (st_so (so_storea1 rfl rfl (by exact fc_agg_76_2) rfl rfl) rfl rfl ?_)
        refine s_nil ?_
        refine at_then_wp ?_
        refine r_seq ?_
        rw [hee]
        refine r_reg ?_
        refine ws (st_po (po_move rfl) rfl rfl rfl ?_)
        refine ws (st_po (po_faddr rfl (by exact fc_field_76_0_0)) rfl rfl rfl ?_)
        refine ws (st_po (po_load rfl (by exact fc_flat_3) (by rfl)) rfl rfl rfl ?_)
        refine ws (st_call (co_fn rfl rfl) (route_At r e.to hr) (by infer_instance) rfl rfl rfl ?_)
        rintro v49 _ ⟨rfl, rfl⟩
        try dsimp only [List.cons_append, List.nil_append, GridS.l, GridS.p, RouteS.l, RouteS.p, GridS.lT, RouteS.lT]
        refine ws (st_po (po_assign rfl) rfl rfl rfl ?_)
        refine s_nil ?_
        refine at_then_wp ?_
        refine r_seq ?_
        refine r_reg ?_
        refine ws (st_po (po_move rfl) rfl rfl rfl ?_)
        refine ws (st_po (po_ne rfl rfl) rfl rfl rfl ?_)
        refine s_nil ?_
        refine at_then_wp ?_
        first | refine r_cond_not rfl ?_ ?_ | refine r_cond_dec rfl ?_ ?_ | refine r_cond rfl ?_ ?_
        · intro hne
          refine r_tree [17] _ 19 fc_mixed (by kernel_rfl) (fun _ h => h) ?_
          refine t_fr (i := 0) (by kernel_rfl) rfl (po_move rfl) rfl rfl rfl ?_
          refine t_fr (i := 1) (by kernel_rfl) rfl (po_move rfl) rfl rfl rfl ?_
          refine t_fr (i := 2) (by kernel_rfl) rfl (po_move rfl) rfl rfl rfl ?_
          refine t_fr (i := 3) (by kernel_rfl) rfl (po_move rfl) rfl rfl rfl ?_
          refine t_fr (i := 5) (by kernel_rfl) rfl (po_move rfl) rfl rfl rfl ?_
          refine t_fr (i := 6) (by kernel_rfl) rfl (po_move rfl) rfl rfl rfl ?_
          refine t_fr (i := 7) (by kernel_rfl) rfl (po_move rfl) rfl rfl rfl ?_
          refine t_fr (i := 8) (by kernel_rfl) rfl (po_faddr rfl (by exact fc_field_76_0_0)) rfl rfl rfl ?_
          refine t_rd (i := 9) (by kernel_rfl) rfl (po_load rfl (by exact fc_flat_3) (by rfl)) (by first | exact fun _ h => h | exact ent) rfl rfl rfl ?_
          refine t_fr (i := 11) (by kernel_rfl) rfl (po_faddr rfl (by exact fc_field_76_1_1)) rfl rfl rfl ?_
          refine t_rd (i := 12) (by kernel_rfl) rfl (po_load rfl (by exact fc_flat_3) (by rfl)) (by first | exact fun _ h => h | exact ent) rfl rfl rfl ?_
          refine t_fr (i := 13) (by kernel_rfl) rfl (po_move rfl) rfl rfl rfl ?_
          refine t_fr (i := 14) (by kernel_rfl) rfl (po_add' rfl rfl (by omega) (by omega)) rfl rfl rfl ?_
          refine t_st (i := 4) (by kernel_rfl) rfl (st_call (co_fn rfl rfl) (where_Local s.w s.h c) (by infer_instance) rfl rfl rfl ?_)
          rintro v56 _ ⟨rfl, rfl⟩
          try dsimp only [List.cons_append, List.nil_append, GridS.l, GridS.p, RouteS.l, RouteS.p, GridS.lT, RouteS.lT]
          refine ⟨fun _ => (by first | exact fun _ h => h | exact ent), ?_⟩
          refine t_st (i := 10) (by kernel_rfl) rfl (st_call (co_fn rfl rfl) (where_Side s.w s.h c e.to) (by infer_instance) rfl rfl rfl ?_)
          rintro v62 _ ⟨rfl, rfl⟩
          try dsimp only [List.cons_append, List.nil_append, GridS.l, GridS.p, RouteS.l, RouteS.p, GridS.lT, RouteS.lT]
          refine ⟨fun _ => (by first | exact fun _ h => h | exact ent), ?_⟩
          refine t_st (i := 15) (by kernel_rfl) rfl (st_po (po_build1 rfl (by exact fc_zero_45) (by exact fc_places_45_0_1_2) (by exact fc_info_45) rfl) rfl rfl rfl ?_)
          refine ⟨fun _ => (by first | exact fun _ h => h | exact ent), ?_⟩
          refine t_st (i := 16) (by kernel_rfl) rfl (st_xo (xo_bslice eS [⟨localN s.w s.h c, sideN s.w s.h c e.to, e.cost + atN r e.to⟩] rfl (by exact fc_slice_32_45_3) (by exact fc_elem_45_3_24) ⟨rfl, rfl, trivial⟩ rfl (by decide)) rfl rfl rfl ?_)
          rintro v68 _ rfl
          refine ⟨fun _ => (by first | exact fun _ h => h | exact ent), ?_⟩
          refine t_st (i := 17) (by kernel_rfl) rfl (st_xo (xo_append rfl rfl (by exact fc_slice_32_45_3) (by exact fc_slice_32_45_3) (by exact fc_elem_45_3_24) (by first | omega | (simp only [List.length_nil, List.length_cons, List.length_append, List.length_replicate, List.length_set, List.length_map, List.length_take, List.length_drop]; omega)) (by first | omega | (simp only [List.length_nil, List.length_cons, List.length_append, List.length_replicate, List.length_set, List.length_map, List.length_take, List.length_drop]; omega))) rfl rfl rfl ?_)
          rintro v69 _ rfl
          refine ⟨fun h => late_no h (by kernel_rfl), ?_⟩
          refine t_fr (i := 18) (by kernel_rfl) rfl (po_assign rfl) rfl rfl rfl ?_
          refine t_nil (by kernel_rfl) ?_
          refine at_block_normal ?_
          exact at_join ((v69, zs ++ [⟨localN s.w s.h c, sideN s.w s.h c e.to, e.cost + atN r e.to⟩])) (And.intro rfl (trivial)) (And.intro rfl (And.intro rfl (And.intro rfl (And.intro rfl (And.intro rfl (And.intro rfl (And.intro rfl (And.intro rfl (And.intro rfl (And.intro rfl (And.intro rfl (And.intro rfl (trivial))))))))))))) (by rw [seedE, if_pos hne]) ent
        · intro hne
          refine r_skip ?_
          refine at_block_normal ?_
          exact at_join ((ov, zs)) (And.intro rfl (trivial)) (And.intro rfl (And.intro rfl (And.intro rfl (And.intro rfl (And.intro rfl (And.intro rfl (And.intro rfl (And.intro rfl (And.intro rfl (And.intro rfl (And.intro rfl (And.intro rfl (trivial))))))))))))) (by rw [seedE, if_neg hne, List.append_nil]) ent
      · rintro ⟨ov, zs2⟩ hz2
        try dsimp only [List.cons_append, List.nil_append, GridS.l, GridS.p, RouteS.l, RouteS.p, GridS.lT, RouteS.lT]
        refine r_reg ?_
        refine ws (st_po (po_add' rfl rfl (by omega) (by omega)) rfl rfl rfl ?_)
        refine ws (st_po (po_move rfl) rfl rfl rfl ?_)
        refine s_nil ?_
        exact at_again ((j + 1, ov, zs2)) (And.intro rfl (And.intro rfl (trivial))) (And.intro rfl (And.intro rfl (And.intro rfl (And.intro rfl (And.intro rfl (And.intro rfl (And.intro rfl (And.intro rfl (And.intro rfl (And.intro rfl (And.intro rfl (trivial)))))))))))) (⟨by omega, by rw [hz2, hzs, flat_snoc _ _ _ hjl, hee', List.append_assoc]⟩) (by omega) ent
    · intro hlt2
      refine r_exit ?_
      refine at_then_exit ?_
      refine at_then_exit ?_
      refine at_block_here ?_
      refine at_block_normal ?_
      refine at_then_wp ?_
      refine r_reg ?_
      refine ws (st_po (po_add' rfl rfl (by omega) (by omega)) rfl rfl rfl ?_)
      refine ws (st_po (po_move rfl) rfl rfl rfl ?_)
      refine s_nil ?_
      exact at_again ((k + 1, ov, zs)) (And.intro rfl (And.intro rfl (trivial))) (And.intro rfl (And.intro rfl (And.intro rfl (And.intro rfl (And.intro rfl (And.intro rfl (And.intro rfl (trivial)))))))) (⟨by omega, by rw [hzs, flat_snoc _ _ _ hkl, hce', ← hxs, List.take_of_length_le (by omega)]; rfl⟩) (by omega) ent
  · intro hlt
    have hxs : xs = seedsO s.w s.h s.c (atN r) i := by rw [hxs, List.take_of_length_le (by omega)]; rfl
    have hxl := seedsO_len s.w s.h s.c (atN r) i
    rw [← hxs] at hxl
    refine r_exit ?_
    refine at_then_exit ?_
    refine at_then_exit ?_
    refine at_block_here ?_
    refine at_then_wp ?_
    refine r_seq ?_
    refine r_seq ?_
    refine r_reg ?_
    refine ws (st_po (po_move rfl) rfl rfl rfl ?_)
    refine ws (st_call (co_fn rfl rfl) (route_Goal r) (by infer_instance) rfl rfl rfl ?_)
    rintro v73 _ ⟨rfl, rfl⟩
    try dsimp only [List.cons_append, List.nil_append, GridS.l, GridS.p, RouteS.l, RouteS.p, GridS.lT, RouteS.lT]
    refine ws (st_po (po_assign rfl) rfl rfl rfl ?_)
    refine s_nil ?_
    refine at_then_wp ?_
    refine r_seq ?_
    refine r_reg ?_
    refine ws (st_po (po_move rfl) rfl rfl rfl ?_)
    refine ws (st_po (po_move rfl) rfl rfl rfl ?_)
    refine ws (st_po (po_move rfl) rfl rfl rfl ?_)
    refine ws (st_call (co_fn rfl rfl) (where_Sector s.w s.h r.goal) (by infer_instance) rfl rfl rfl ?_)
    rintro v77 _ ⟨rfl, rfl⟩
    try dsimp only [List.cons_append, List.nil_append, GridS.l, GridS.p, RouteS.l, RouteS.p, GridS.lT, RouteS.lT]
    refine ws (st_po (po_move rfl) rfl rfl rfl ?_)
    refine ws (st_po (po_eq rfl rfl) rfl rfl rfl ?_)
    by_cases hse : sectorN s.w s.h r.goal = i
    · skip
      refine ws (st_po (po_bt (po_move rfl) (decide_eq_true hse)) rfl rfl rfl ?_)
      refine ws (st_po (po_move rfl) rfl rfl rfl ?_)
      refine ws (st_po (po_move rfl) rfl rfl rfl ?_)
      refine ws (st_call (co_fn rfl rfl) (grid_Cost s r.goal ok.bytes) (by infer_instance) rfl rfl rfl ?_)
      rintro v83 _ ⟨rfl, rfl⟩
      try dsimp only [List.cons_append, List.nil_append, GridS.l, GridS.p, RouteS.l, RouteS.p, GridS.lT, RouteS.lT]
      refine ws (st_po (po_ne rfl rfl) rfl rfl rfl ?_)
      refine ws (st_po (po_pick_t rfl rfl) rfl rfl rfl ?_)
      refine s_nil ?_
      refine at_then_wp ?_
      first | refine r_cond_not rfl ?_ ?_ | refine r_cond_dec rfl ?_ ?_ | refine r_cond rfl ?_ ?_
      · intro hco
        refine r_reg ?_
        refine ws (st_po (po_move rfl) rfl rfl rfl ?_)
        refine ws (st_po (po_move rfl) rfl rfl rfl ?_)
        refine ws (st_po (po_move rfl) rfl rfl rfl ?_)
        refine ws (st_po (po_move rfl) rfl rfl rfl ?_)
        refine ws (st_call (co_fn rfl rfl) (where_Local s.w s.h r.goal) (by infer_instance) rfl rfl rfl ?_)
        rintro v90 _ ⟨rfl, rfl⟩
        try dsimp only [List.cons_append, List.nil_append, GridS.l, GridS.p, RouteS.l, RouteS.p, GridS.lT, RouteS.lT]
        have he : xs ++ [⟨localN s.w s.h r.goal, 4, 0⟩] = seedsG s.w s.h s.c (atN r) r.goal i := by rw [seedsG, if_pos ⟨hse, hco⟩, hxs]
        refine ws (st_po (po_build1 rfl (by exact fc_zero_45) (by exact fc_places_45_0_1) (by exact fc_info_45) rfl) rfl rfl rfl ?_)
        refine ws (st_xo (xo_bslice eS [⟨localN s.w s.h r.goal, 4, 0⟩] rfl (by exact fc_slice_32_45_3) (by exact fc_elem_45_3_24) ⟨rfl, rfl, trivial⟩ rfl (by decide)) rfl rfl rfl ?_)
        rintro v92 _ rfl
        refine ws (st_xo (xo_append rfl rfl (by exact fc_slice_32_45_3) (by exact fc_slice_32_45_3) (by exact fc_elem_45_3_24) (by first | omega | (simp only [List.length_nil, List.length_cons, List.length_append, List.length_replicate, List.length_set, List.length_map, List.length_take, List.length_drop]; omega)) (by first | omega | (simp only [List.length_nil, List.length_cons, List.length_append, List.length_replicate, List.length_set, List.length_map, List.length_take, List.length_drop]; omega))) rfl rfl rfl ?_)
        rintro v93 _ rfl
        refine ws (st_po (po_assign rfl) rfl rfl rfl ?_)
        refine s_nil ?_
        refine at_then_wp ?_
        refine r_seq ?_
        refine r_reg ?_
        refine ws (st_po (po_move rfl) rfl rfl rfl ?_)
        refine ws (st_call (co_fn rfl rfl) (seeds_Sort v93 (xs ++ [⟨localN s.w s.h r.goal, 4, 0⟩]) (by rw [he]; exact hnd) (by rw [he]; omega)) (by infer_instance) rfl rfl rfl ?_)
        rintro v95 _ ⟨ys, rfl, hp, hs⟩
        try dsimp only [List.cons_append, List.nil_append, GridS.l, GridS.p, RouteS.l, RouteS.p, GridS.lT, RouteS.lT]
        refine ws (st_po (po_assign rfl) rfl rfl rfl ?_)
        refine s_nil ?_
        refine at_then_wp ?_
        refine r_ret ?_
        refine at_ret1 rfl (rv_tmp rfl) ⟨_, ⟨ys, rfl, by rw [← he]; exact hp, hs⟩, ?_⟩
        try dsimp only [List.cons_append, List.nil_append, GridS.l, GridS.p, RouteS.l, RouteS.p, GridS.lT, RouteS.lT]
        exact ent
      · intro hco
        have he : xs = seedsG s.w s.h s.c (atN r) r.goal i := by rw [seedsG, if_neg (fun h => hco h.2), List.append_nil, hxs]
        refine r_skip ?_
        refine at_then_wp ?_
        refine r_seq ?_
        refine r_reg ?_
        refine ws (st_po (po_move rfl) rfl rfl rfl ?_)
        refine ws (st_call (co_fn rfl rfl) (seeds_Sort ov xs (by rw [he]; exact hnd) (by rw [he]; omega)) (by infer_instance) rfl rfl rfl ?_)
        rintro v95 _ ⟨ys, rfl, hp, hs⟩
        try dsimp only [List.cons_append, List.nil_append, GridS.l, GridS.p, RouteS.l, RouteS.p, GridS.lT, RouteS.lT]
        refine ws (st_po (po_assign rfl) rfl rfl rfl ?_)
        refine s_nil ?_
        refine at_then_wp ?_
        refine r_ret ?_
        refine at_ret1 rfl (rv_tmp rfl) ⟨_, ⟨ys, rfl, by rw [← he]; exact hp, hs⟩, ?_⟩
        try dsimp only [List.cons_append, List.nil_append, GridS.l, GridS.p, RouteS.l, RouteS.p, GridS.lT, RouteS.lT]
        exact ent
    · skip
      refine ws (st_po (po_bf (po_move rfl) (decide_eq_false hse)) rfl rfl rfl ?_)
      have he : xs = seedsG s.w s.h s.c (atN r) r.goal i := by rw [seedsG, if_neg (fun h => hse h.1), List.append_nil, hxs]
      refine ws (st_no rfl rfl rfl ?_)
      refine ws (st_no rfl rfl rfl ?_)
      refine ws (st_no rfl rfl rfl ?_)
      refine ws (st_no rfl rfl rfl ?_)
      refine ws (st_po (po_pick_f rfl rfl) rfl rfl rfl ?_)
      refine s_nil ?_
      refine at_then_wp ?_
      refine r_cond_f rfl rfl ?_
      refine r_skip ?_
      refine at_then_wp ?_
      refine r_seq ?_
      refine r_reg ?_
      refine ws (st_po (po_move rfl) rfl rfl rfl ?_)
      refine ws (st_call (co_fn rfl rfl) (seeds_Sort ov xs (by rw [he]; exact hnd) (by rw [he]; omega)) (by infer_instance) rfl rfl rfl ?_)
      rintro v95 _ ⟨ys, rfl, hp, hs⟩
      try dsimp only [List.cons_append, List.nil_append, GridS.l, GridS.p, RouteS.l, RouteS.p, GridS.lT, RouteS.lT]
      refine ws (st_po (po_assign rfl) rfl rfl rfl ?_)
      refine s_nil ?_
      refine at_then_wp ?_
      refine r_ret ?_
      refine at_ret1 rfl (rv_tmp rfl) ⟨_, ⟨ys, rfl, by rw [← he]; exact hp, hs⟩, ?_⟩
      try dsimp only [List.cons_append, List.nil_append, GridS.l, GridS.p, RouteS.l, RouteS.p, GridS.lT, RouteS.lT]
      exact ent
theorem inject_Seeds_ep (s : GridS) (r : RouteS) (hep : r.ep ≠ s.ep) (i : Int) : Spec PP 16 #[s.p, r.p, .int .i64 i] (s.lT r.l) (fun v M => v = .slice none 0 0 ∧ M = Sl eS (.slice none 0 0) [] :: (s.l ++ r.l)) := by
  refine spec_of (Go.Proofs.Tryz.func16) rfl rfl rfl (by exact fc_enters_16) ?_
  intro g F
  try dsimp only [List.cons_append, List.nil_append, GridS.l, GridS.p, RouteS.l, RouteS.p, GridS.lT, RouteS.lT]
  refine r_seq ?_
  refine r_reg ?_
  refine ws (st_po (po_assign rfl) rfl rfl rfl ?_)
  refine s_nil ?_
  refine at_then_wp ?_
  refine r_seq ?_
  refine r_reg ?_
  refine ws (st_po (po_move rfl) rfl rfl rfl ?_)
  refine ws (st_call (co_fn rfl rfl) (grid_Size s) (by infer_instance) rfl rfl rfl ?_)
  rintro v18 _ ⟨rfl, rfl⟩
  try dsimp only [List.cons_append, List.nil_append, GridS.l, GridS.p, RouteS.l, RouteS.p, GridS.lT, RouteS.lT]
  refine ws (st_po (po_move rfl) rfl rfl rfl ?_)
  refine ws (st_po (po_extract rfl rfl) rfl rfl rfl ?_)
  refine ws (st_po (po_extract rfl rfl) rfl rfl rfl ?_)
  refine ws (st_po (po_assign rfl) rfl rfl rfl ?_)
  refine ws (st_po (po_assign rfl) rfl rfl rfl ?_)
  refine s_nil ?_
  refine at_then_wp ?_
  refine r_seq ?_
  refine r_seq ?_
  refine r_reg ?_
  refine ws (st_po (po_move rfl) rfl rfl rfl ?_)
  refine ws (st_po (po_peq rfl rfl (by exact fc_ptr_28)) rfl rfl rfl ?_)
  refine ws (st_po (po_bf (po_move rfl) (rfl)) rfl rfl rfl ?_)
  refine ws (st_po (po_move rfl) rfl rfl rfl ?_)
  refine ws (st_call (co_fn rfl rfl) (route_Epoch r) (by infer_instance) rfl rfl rfl ?_)
  rintro v25 _ ⟨rfl, rfl⟩
  try dsimp only [List.cons_append, List.nil_append, GridS.l, GridS.p, RouteS.l, RouteS.p, GridS.lT, RouteS.lT]
  refine ws (st_po (po_move rfl) rfl rfl rfl ?_)
  refine ws (st_call (co_fn rfl rfl) (grid_Epoch s) (by infer_instance) rfl rfl rfl ?_)
  rintro v27 _ ⟨rfl, rfl⟩
  try dsimp only [List.cons_append, List.nil_append, GridS.l, GridS.p, RouteS.l, RouteS.p, GridS.lT, RouteS.lT]
  refine ws (st_po (po_ne rfl rfl) rfl rfl rfl ?_)
  refine ws (st_po (po_pick_f rfl rfl) rfl rfl rfl ?_)
  refine s_nil ?_
  refine at_then_wp ?_
  first | refine r_dec_t rfl (hep) ?_ | refine r_nd_t rfl (hep) ?_ | refine r_cond_t rfl (hep) ?_
  refine r_seq ?_
  refine r_reg ?_
  refine ws (st_po (po_assign rfl) rfl rfl rfl ?_)
  refine s_nil ?_
  refine at_then_wp ?_
  refine r_ret ?_
  refine at_then_ret ?_
  refine at_ret1 rfl (rv_tmp rfl) ⟨_, ⟨rfl, rfl⟩, ?_⟩
  try dsimp only [List.cons_append, List.nil_append, GridS.l, GridS.p, RouteS.l, RouteS.p, GridS.lT, RouteS.lT]
  exact ent
theorem inject_Seeds_g (r : RouteS) (hep : r.ep ≠ 0) (i : Int) : Spec PP 16 #[.pointer none, r.p, .int .i64 i] r.l (fun v M => v = .slice none 0 0 ∧ M = Sl eS (.slice none 0 0) [] :: r.l) := by
  refine spec_of (Go.Proofs.Tryz.func16) rfl rfl rfl (by exact fc_enters_16) ?_
  intro g F
  try dsimp only [List.cons_append, List.nil_append, GridS.l, GridS.p, RouteS.l, RouteS.p, GridS.lT, RouteS.lT]
  refine r_seq ?_
  refine r_reg ?_
  refine ws (st_po (po_assign rfl) rfl rfl rfl ?_)
  refine s_nil ?_
  refine at_then_wp ?_
  refine r_seq ?_
  refine r_reg ?_
  refine ws (st_po (po_move rfl) rfl rfl rfl ?_)
  refine ws (st_call (co_fn rfl rfl) (grid_Size0) (by infer_instance) rfl rfl rfl ?_)
  rintro v18 _ ⟨rfl, rfl⟩
  try dsimp only [List.cons_append, List.nil_append, GridS.l, GridS.p, RouteS.l, RouteS.p, GridS.lT, RouteS.lT]
  refine ws (st_po (po_move rfl) rfl rfl rfl ?_)
  refine ws (st_po (po_extract rfl rfl) rfl rfl rfl ?_)
  refine ws (st_po (po_extract rfl rfl) rfl rfl rfl ?_)
  refine ws (st_po (po_assign rfl) rfl rfl rfl ?_)
  refine ws (st_po (po_assign rfl) rfl rfl rfl ?_)
  refine s_nil ?_
  refine at_then_wp ?_
  refine r_seq ?_
  refine r_seq ?_
  refine r_reg ?_
  refine ws (st_po (po_move rfl) rfl rfl rfl ?_)
  refine ws (st_po (po_peq rfl rfl (by exact fc_ptr_28)) rfl rfl rfl ?_)
  refine ws (st_po (po_bf (po_move rfl) (rfl)) rfl rfl rfl ?_)
  refine ws (st_po (po_move rfl) rfl rfl rfl ?_)
  refine ws (st_call (co_fn rfl rfl) (route_Epoch r) (by infer_instance) rfl rfl rfl ?_)
  rintro v25 _ ⟨rfl, rfl⟩
  try dsimp only [List.cons_append, List.nil_append, GridS.l, GridS.p, RouteS.l, RouteS.p, GridS.lT, RouteS.lT]
  refine ws (st_po (po_move rfl) rfl rfl rfl ?_)
  refine ws (st_call (co_fn rfl rfl) (grid_Epoch0) (by infer_instance) rfl rfl rfl ?_)
  rintro v27 _ ⟨rfl, rfl⟩
  try dsimp only [List.cons_append, List.nil_append, GridS.l, GridS.p, RouteS.l, RouteS.p, GridS.lT, RouteS.lT]
  refine ws (st_po (po_ne rfl rfl) rfl rfl rfl ?_)
  refine ws (st_po (po_pick_f rfl rfl) rfl rfl rfl ?_)
  refine s_nil ?_
  refine at_then_wp ?_
  first | refine r_dec_t rfl (hep) ?_ | refine r_nd_t rfl (hep) ?_ | refine r_cond_t rfl (hep) ?_
  refine r_seq ?_
  refine r_reg ?_
  refine ws (st_po (po_assign rfl) rfl rfl rfl ?_)
  refine s_nil ?_
  refine at_then_wp ?_
  refine r_ret ?_
  refine at_then_ret ?_
  refine at_ret1 rfl (rv_tmp rfl) ⟨_, ⟨rfl, rfl⟩, ?_⟩
  try dsimp only [List.cons_append, List.nil_append, GridS.l, GridS.p, RouteS.l, RouteS.p, GridS.lT, RouteS.lT]
  exact ent
theorem inject_Seeds_r (s : GridS) (i : Int) : Spec PP 16 #[s.p, .pointer none, .int .i64 i] s.l (fun v M => v = .slice none 0 0 ∧ M = Sl eS (.slice none 0 0) [] :: s.l) := by
  refine spec_of (Go.Proofs.Tryz.func16) rfl rfl rfl (by exact fc_enters_16) ?_
  intro g F
  try dsimp only [List.cons_append, List.nil_append, GridS.l, GridS.p, RouteS.l, RouteS.p, GridS.lT, RouteS.lT]
  refine r_seq ?_
  refine r_reg ?_
  refine ws (st_po (po_assign rfl) rfl rfl rfl ?_)
  refine s_nil ?_
  refine at_then_wp ?_
  refine r_seq ?_
  refine r_reg ?_
  refine ws (st_po (po_move rfl) rfl rfl rfl ?_)
  refine ws (st_call (co_fn rfl rfl) (grid_Size s) (by infer_instance) rfl rfl rfl ?_)
  rintro v18 _ ⟨rfl, rfl⟩
  try dsimp only [List.cons_append, List.nil_append, GridS.l, GridS.p, RouteS.l, RouteS.p, GridS.lT, RouteS.lT]
  refine ws (st_po (po_move rfl) rfl rfl rfl ?_)
  refine ws (st_po (po_extract rfl rfl) rfl rfl rfl ?_)
  refine ws (st_po (po_extract rfl rfl) rfl rfl rfl ?_)
  refine ws (st_po (po_assign rfl) rfl rfl rfl ?_)
  refine ws (st_po (po_assign rfl) rfl rfl rfl ?_)
  refine s_nil ?_
  refine at_then_wp ?_
  refine r_seq ?_
  refine r_seq ?_
  refine r_reg ?_
  refine ws (st_po (po_move rfl) rfl rfl rfl ?_)
  refine ws (st_po (po_peq rfl rfl (by exact fc_ptr_28)) rfl rfl rfl ?_)
  refine ws (st_po (po_bt (po_move rfl) (rfl)) rfl rfl rfl ?_)
  refine ws (st_no rfl rfl rfl ?_)
  refine ws (st_no rfl rfl rfl ?_)
  refine ws (st_no rfl rfl rfl ?_)
  refine ws (st_no rfl rfl rfl ?_)
  refine ws (st_no rfl rfl rfl ?_)
  refine ws (st_po (po_pick_t rfl rfl) rfl rfl rfl ?_)
  refine s_nil ?_
  refine at_then_wp ?_
  refine r_cond_t rfl rfl ?_
  refine r_seq ?_
  refine r_reg ?_
  refine ws (st_po (po_assign rfl) rfl rfl rfl ?_)
  refine s_nil ?_
  refine at_then_wp ?_
  refine r_ret ?_
  refine at_then_ret ?_
  refine at_ret1 rfl (rv_tmp rfl) ⟨_, ⟨rfl, rfl⟩, ?_⟩
  try dsimp only [List.cons_append, List.nil_append, GridS.l, GridS.p, RouteS.l, RouteS.p, GridS.lT, RouteS.lT]
  exact ent
end Hd
end
section
namespace Hd
set_option maxRecDepth 100000
open Go

theorem ref_In (n lo hi : Int) : Spec PP 11 #[.int .i64 n, .int .i64 lo, .int .i64 hi] [] (fun v M => v = .bool (decide (lo ≤ n ∧ n ≤ hi)) ∧ M = []) := by
  refine spec_of (Go.Proofs.Tryz.func11) rfl rfl rfl (by exact fc_enters_11) ?_
  intro g F
  try dsimp only [List.cons_append, List.nil_append]
  refine r_seq ?_
  refine r_reg ?_
  refine ws (st_po (po_assign rfl) rfl rfl rfl ?_)
  refine s_nil ?_
  refine at_then_wp ?_
  refine r_seq ?_
  refine r_reg ?_
  refine ws (st_po (po_move rfl) rfl rfl rfl ?_)
  refine ws (st_po (po_move rfl) rfl rfl rfl ?_)
  refine ws (st_po (po_ge rfl rfl) rfl rfl rfl ?_)
  by_cases h1 : lo ≤ n
  · skip
    refine ws (st_po (po_bt (po_move rfl) (decide_eq_true h1)) rfl rfl rfl ?_)
    refine ws (st_po (po_move rfl) rfl rfl rfl ?_)
    refine ws (st_po (po_move rfl) rfl rfl rfl ?_)
    refine ws (st_po (po_le rfl rfl) rfl rfl rfl ?_)
    refine ws (st_po (po_pick_t rfl rfl) rfl rfl rfl ?_)
    refine ws (st_po (po_assign rfl) rfl rfl rfl ?_)
    refine s_nil ?_
    refine at_then_wp ?_
    refine r_ret ?_
    refine at_ret1 rfl (rv_tmp rfl) ⟨_, ⟨by simp [h1], rfl⟩, ?_⟩
    try dsimp only [List.cons_append, List.nil_append]
    exact ent
  · skip
    refine ws (st_po (po_bf (po_move rfl) (decide_eq_false h1)) rfl rfl rfl ?_)
    refine ws (st_no rfl rfl rfl ?_)
    refine ws (st_no rfl rfl rfl ?_)
    refine ws (st_no rfl rfl rfl ?_)
    refine ws (st_po (po_pick_f rfl rfl) rfl rfl rfl ?_)
    refine ws (st_po (po_assign rfl) rfl rfl rfl ?_)
    refine s_nil ?_
    refine at_then_wp ?_
    refine r_ret ?_
    refine at_ret1 rfl (rv_tmp rfl) ⟨_, ⟨by simp [h1], rfl⟩, ?_⟩
    try dsimp only [List.cons_append, List.nil_append]
    exact ent
theorem ref_Within (n lo hi : Int) (h0 : 0 ≤ lo + 2147483648) (h1 : lo ≤ hi) (h2 : hi ≤ 2147483648) : Spec PP 8 #[.int .i64 n, .int .i64 lo, .int .i64 hi] [] (fun v M => v = .int .i64 (lo + n % (hi - lo + 1)) ∧ M = []) := by
  obtain ⟨t1, t2, t3, t4⟩ := tmod_emod (p := n) (q := hi - lo + 1) (by omega)
  refine spec_of (Go.Proofs.Tryz.func8) rfl rfl rfl (by exact fc_enters_8) ?_
  intro g F
  try dsimp only [List.cons_append, List.nil_append]
  refine r_seq ?_
  refine r_reg ?_
  refine ws (st_po (po_assign rfl) rfl rfl rfl ?_)
  refine s_nil ?_
  refine at_then_wp ?_
  refine r_seq ?_
  refine r_reg ?_
  refine ws (st_po (po_move rfl) rfl rfl rfl ?_)
  refine ws (st_po (po_move rfl) rfl rfl rfl ?_)
  refine ws (st_po (po_move rfl) rfl rfl rfl ?_)
  refine ws (st_po (po_sub' rfl rfl (by omega) (by omega)) rfl rfl rfl ?_)
  refine ws (st_po (po_add' rfl rfl (by omega) (by omega)) rfl rfl rfl ?_)
  refine ws (st_po (po_rem_t rfl rfl (by omega)) rfl rfl rfl ?_)
  refine ws (st_po (po_assign rfl) rfl rfl rfl ?_)
  refine s_nil ?_
  refine at_then_wp ?_
  refine r_seq ?_
  refine r_seq ?_
  refine r_reg ?_
  refine ws (st_po (po_move rfl) rfl rfl rfl ?_)
  refine ws (st_po (po_lt rfl rfl) rfl rfl rfl ?_)
  refine s_nil ?_
  refine at_then_wp ?_
  first | refine r_cond_not rfl ?_ ?_ | refine r_cond_dec rfl ?_ ?_ | refine r_cond rfl ?_ ?_
  · intro hn
    refine r_reg ?_
    refine ws (st_po (po_move rfl) rfl rfl rfl ?_)
    refine ws (st_po (po_move rfl) rfl rfl rfl ?_)
    refine ws (st_po (po_add' rfl rfl (by omega) (by omega)) rfl rfl rfl ?_)
    refine ws (st_po (po_move rfl) rfl rfl rfl ?_)
    refine ws (st_po (po_sub' rfl rfl (by omega) (by omega)) rfl rfl rfl ?_)
    refine ws (st_po (po_add' rfl rfl (by omega) (by omega)) rfl rfl rfl ?_)
    refine ws (st_po (po_assign rfl) rfl rfl rfl ?_)
    refine s_nil ?_
    refine at_then_wp ?_
    refine r_seq ?_
    refine r_reg ?_
    refine ws (st_po (po_move rfl) rfl rfl rfl ?_)
    refine ws (st_po (po_move rfl) rfl rfl rfl ?_)
    refine ws (st_po (po_add' rfl rfl (by omega) (by omega)) rfl rfl rfl ?_)
    refine ws (st_po (po_assign rfl) rfl rfl rfl ?_)
    refine s_nil ?_
    refine at_then_wp ?_
    refine r_ret ?_
    refine at_ret1 rfl (rv_tmp rfl) ⟨_, ⟨by rw [t1 hn]; congr 2; omega, rfl⟩, ?_⟩
    try dsimp only [List.cons_append, List.nil_append]
    exact ent
  · intro hn
    refine r_skip ?_
    refine at_then_wp ?_
    refine r_seq ?_
    refine r_reg ?_
    refine ws (st_po (po_move rfl) rfl rfl rfl ?_)
    refine ws (st_po (po_move rfl) rfl rfl rfl ?_)
    refine ws (st_po (po_add' rfl rfl (by omega) (by omega)) rfl rfl rfl ?_)
    refine ws (st_po (po_assign rfl) rfl rfl rfl ?_)
    refine s_nil ?_
    refine at_then_wp ?_
    refine r_ret ?_
    refine at_ret1 rfl (rv_tmp rfl) ⟨_, ⟨by rw [t2 (by omega)], rfl⟩, ?_⟩
    try dsimp only [List.cons_append, List.nil_append]
    exact ent
theorem ref_May (w h : Int) : Spec PP 65 #[.int .i64 w, .int .i64 h] [] (fun v M => v = .bool (decide (May w h)) ∧ M = []) := by
  refine spec_of (Go.Proofs.Tryz.func65) rfl rfl rfl (by exact fc_enters_65) ?_
  intro g F
  try dsimp only [List.cons_append, List.nil_append]
  refine r_seq ?_
  refine r_reg ?_
  refine ws (st_po (po_assign rfl) rfl rfl rfl ?_)
  refine s_nil ?_
  refine at_then_wp ?_
  refine r_seq ?_
  refine r_reg ?_
  refine ws (st_po (po_move rfl) rfl rfl rfl ?_)
  refine ws (st_call (co_fn rfl rfl) (ref_In w 1 1024) (by infer_instance) rfl rfl rfl ?_)
  rintro v6 _ ⟨rfl, rfl⟩
  try dsimp only [List.cons_append, List.nil_append]
  by_cases h1 : 1 ≤ w ∧ w ≤ 1024
  · skip
    refine ws (st_po (po_bt (po_move rfl) (decide_eq_true h1)) rfl rfl rfl ?_)
    refine ws (st_po (po_move rfl) rfl rfl rfl ?_)
    refine ws (st_call (co_fn rfl rfl) (ref_In h 1 1024) (by infer_instance) rfl rfl rfl ?_)
    rintro v9 _ ⟨rfl, rfl⟩
    try dsimp only [List.cons_append, List.nil_append]
    refine ws (st_po (po_pick_t rfl rfl) rfl rfl rfl ?_)
    refine ws (st_po (po_assign rfl) rfl rfl rfl ?_)
    refine s_nil ?_
    refine at_then_wp ?_
    refine r_ret ?_
    refine at_ret1 rfl (rv_tmp rfl) ⟨_, ⟨by simp [May, h1], rfl⟩, ?_⟩
    try dsimp only [List.cons_append, List.nil_append]
    exact ent
  · skip
    refine ws (st_po (po_bf (po_move rfl) (decide_eq_false h1)) rfl rfl rfl ?_)
    refine ws (st_no rfl rfl rfl ?_)
    refine ws (st_no rfl rfl rfl ?_)
    refine ws (st_po (po_pick_f rfl rfl) rfl rfl rfl ?_)
    refine ws (st_po (po_assign rfl) rfl rfl rfl ?_)
    refine s_nil ?_
    refine at_then_wp ?_
    refine r_ret ?_
    refine at_ret1 rfl (rv_tmp rfl) ⟨_, ⟨by simp only [May, h1, false_and, decide_false], rfl⟩, ?_⟩
    try dsimp only [List.cons_append, List.nil_append]
    exact ent
theorem ref_IsCell (w h c : Int) : Spec PP 52 #[.int .i64 w, .int .i64 h, .int .i64 c] [] (fun v M => v = .bool (decide (IsC w h c)) ∧ M = []) := by
  refine spec_of (Go.Proofs.Tryz.func52) rfl rfl rfl (by exact fc_enters_52) ?_
  intro g F
  try dsimp only [List.cons_append, List.nil_append]
  refine r_seq ?_
  refine r_reg ?_
  refine ws (st_po (po_assign rfl) rfl rfl rfl ?_)
  refine s_nil ?_
  refine at_then_wp ?_
  refine r_seq ?_
  refine r_reg ?_
  refine ws (st_po (po_move rfl) rfl rfl rfl ?_)
  refine ws (st_po (po_move rfl) rfl rfl rfl ?_)
  refine ws (st_call (co_fn rfl rfl) (ref_May w h) (by infer_instance) rfl rfl rfl ?_)
  rintro v9 _ ⟨rfl, rfl⟩
  try dsimp only [List.cons_append, List.nil_append]
  by_cases hm : May w h
  · skip
    refine ws (st_po (po_bt (po_move rfl) (decide_eq_true hm)) rfl rfl rfl ?_)
    have hb := may_mul hm
    refine ws (st_po (po_move rfl) rfl rfl rfl ?_)
    refine ws (st_po (po_move rfl) rfl rfl rfl ?_)
    refine ws (st_po (po_move rfl) rfl rfl rfl ?_)
    refine ws (st_po (po_mul' rfl rfl (by omega) (by omega)) rfl rfl rfl ?_)
    refine ws (st_po (po_sub' rfl rfl (by omega) (by omega)) rfl rfl rfl ?_)
    refine ws (st_call (co_fn rfl rfl) (ref_In c 0 (w * h - 1)) (by infer_instance) rfl rfl rfl ?_)
    rintro v16 _ ⟨rfl, rfl⟩
    try dsimp only [List.cons_append, List.nil_append]
    refine ws (st_po (po_pick_t rfl rfl) rfl rfl rfl ?_)
    refine ws (st_po (po_assign rfl) rfl rfl rfl ?_)
    refine s_nil ?_
    refine at_then_wp ?_
    refine r_ret ?_
    refine at_ret1 rfl (rv_tmp rfl) ⟨_, ⟨by congr 1; refine decide_eq_decide.2 ?_; constructor; exact (fun h => ⟨hm, h.1, by omega⟩); exact (fun h => ⟨h.2.1, by have := h.2.2; omega⟩), rfl⟩, ?_⟩
    try dsimp only [List.cons_append, List.nil_append]
    exact ent
  · skip
    refine ws (st_po (po_bf (po_move rfl) (decide_eq_false hm)) rfl rfl rfl ?_)
    refine ws (st_no rfl rfl rfl ?_)
    refine ws (st_no rfl rfl rfl ?_)
    refine ws (st_no rfl rfl rfl ?_)
    refine ws (st_no rfl rfl rfl ?_)
    refine ws (st_no rfl rfl rfl ?_)
    refine ws (st_no rfl rfl rfl ?_)
    refine ws (st_po (po_pick_f rfl rfl) rfl rfl rfl ?_)
    refine ws (st_po (po_assign rfl) rfl rfl rfl ?_)
    refine s_nil ?_
    refine at_then_wp ?_
    refine r_ret ?_
    refine at_ret1 rfl (rv_tmp rfl) ⟨_, ⟨by simp only [IsC, hm, false_and, decide_false], rfl⟩, ?_⟩
    try dsimp only [List.cons_append, List.nil_append]
    exact ent
theorem ref_Sectors (w h : Int) : Spec PP 32 #[.int .i64 w, .int .i64 h] [] (fun v M => v = .tuple #[.int .i64 (secsN w h).1, .int .i64 (secsN w h).2] ∧ M = []) := by
  refine spec_of (Go.Proofs.Tryz.func32) rfl rfl rfl (by exact fc_enters_32) ?_
  intro g F
  try dsimp only [List.cons_append, List.nil_append]
  refine r_seq ?_
  refine r_reg ?_
  refine ws (st_po (po_assign rfl) rfl rfl rfl ?_)
  refine ws (st_po (po_assign rfl) rfl rfl rfl ?_)
  refine s_nil ?_
  refine at_then_wp ?_
  refine r_seq ?_
  refine r_seq ?_
  refine r_reg ?_
  refine ws (st_po (po_move rfl) rfl rfl rfl ?_)
  refine ws (st_po (po_move rfl) rfl rfl rfl ?_)
  refine ws (st_call (co_fn rfl rfl) (ref_May w h) (by infer_instance) rfl rfl rfl ?_)
  rintro v8 _ ⟨rfl, rfl⟩
  try dsimp only [List.cons_append, List.nil_append]
  refine ws (st_po (po_not rfl) rfl rfl rfl ?_)
  refine s_nil ?_
  refine at_then_wp ?_
  first | refine r_cond_not rfl ?_ ?_ | refine r_cond_dec rfl ?_ ?_ | refine r_cond rfl ?_ ?_
  · intro hm
    refine r_seq ?_
    refine r_reg ?_
    refine ws (st_po (po_assign rfl) rfl rfl rfl ?_)
    refine ws (st_po (po_assign rfl) rfl rfl rfl ?_)
    refine s_nil ?_
    refine at_then_wp ?_
    refine r_ret ?_
    refine at_then_ret ?_
    refine at_ret2 rfl (rv_tmp rfl) (rv_tmp rfl) ⟨_, ⟨by rw [secsN, if_neg hm], rfl⟩, ?_⟩
    try dsimp only [List.cons_append, List.nil_append]
    exact ent
  · intro hm
    refine r_skip ?_
    refine at_then_wp ?_
    refine r_seq ?_
    refine r_reg ?_
    refine ws (st_po (po_move rfl) rfl rfl rfl ?_)
    refine ws (st_po (po_add' rfl rfl (by omega) (by omega)) rfl rfl rfl ?_)
    refine ws (st_po (po_sub' rfl rfl (by omega) (by omega)) rfl rfl rfl ?_)
    refine ws (st_po (po_quo' rfl rfl (by omega) (by omega) (by omega)) rfl rfl rfl ?_)
    refine ws (st_po (po_move rfl) rfl rfl rfl ?_)
    refine ws (st_po (po_add' rfl rfl (by omega) (by omega)) rfl rfl rfl ?_)
    refine ws (st_po (po_sub' rfl rfl (by omega) (by omega)) rfl rfl rfl ?_)
    refine ws (st_po (po_quo' rfl rfl (by omega) (by omega) (by omega)) rfl rfl rfl ?_)
    refine ws (st_po (po_assign rfl) rfl rfl rfl ?_)
    refine ws (st_po (po_assign rfl) rfl rfl rfl ?_)
    refine s_nil ?_
    refine at_then_wp ?_
    refine r_ret ?_
    refine at_ret2 rfl (rv_tmp rfl) (rv_tmp rfl) ⟨_, ⟨by rw [secsN, if_pos hm, acrN, acrN, show w + 16 - 1 = w + 15 from by omega, show h + 16 - 1 = h + 15 from by omega], rfl⟩, ?_⟩
    try dsimp only [List.cons_append, List.nil_append]
    exact ent
theorem ref_Count (w h : Int) : Spec PP 10 #[.int .i64 w, .int .i64 h] [] (fun v M => v = .int .i64 ((secsN w h).1 * (secsN w h).2) ∧ M = []) := by
  have hb := secs_mul w h
  refine spec_of (Go.Proofs.Tryz.func10) rfl rfl rfl (by exact fc_enters_10) ?_
  intro g F
  try dsimp only [List.cons_append, List.nil_append]
  refine r_seq ?_
  refine r_reg ?_
  refine ws (st_po (po_assign rfl) rfl rfl rfl ?_)
  refine s_nil ?_
  refine at_then_wp ?_
  refine r_seq ?_
  refine r_reg ?_
  refine ws (st_po (po_move rfl) rfl rfl rfl ?_)
  refine ws (st_po (po_move rfl) rfl rfl rfl ?_)
  refine ws (st_call (co_fn rfl rfl) (ref_Sectors w h) (by infer_instance) rfl rfl rfl ?_)
  rintro v10 _ ⟨rfl, rfl⟩
  try dsimp only [List.cons_append, List.nil_append]
  refine ws (st_po (po_move rfl) rfl rfl rfl ?_)
  refine ws (st_po (po_extract rfl rfl) rfl rfl rfl ?_)
  refine ws (st_po (po_extract rfl rfl) rfl rfl rfl ?_)
  refine ws (st_po (po_assign rfl) rfl rfl rfl ?_)
  refine ws (st_po (po_assign rfl) rfl rfl rfl ?_)
  refine s_nil ?_
  refine at_then_wp ?_
  refine r_seq ?_
  refine r_reg ?_
  refine ws (st_po (po_move rfl) rfl rfl rfl ?_)
  refine ws (st_po (po_move rfl) rfl rfl rfl ?_)
  refine ws (st_po (po_mul' rfl rfl (by omega) (by omega)) rfl rfl rfl ?_)
  refine ws (st_po (po_assign rfl) rfl rfl rfl ?_)
  refine s_nil ?_
  refine at_then_wp ?_
  refine r_ret ?_
  refine at_ret1 rfl (rv_tmp rfl) ⟨_, ⟨rfl, rfl⟩, ?_⟩
  try dsimp only [List.cons_append, List.nil_append]
  exact ent
theorem ref_Sector (w h c : Int) : Spec PP 21 #[.int .i64 w, .int .i64 h, .int .i64 c] [] (fun v M => v = .int .i64 (sectorN w h c) ∧ M = []) := by
  refine spec_of (Go.Proofs.Tryz.func21) rfl rfl rfl (by exact fc_enters_21) ?_
  intro g F
  try dsimp only [List.cons_append, List.nil_append]
  refine r_seq ?_
  refine r_reg ?_
  refine ws (st_po (po_assign rfl) rfl rfl rfl ?_)
  refine s_nil ?_
  refine at_then_wp ?_
  refine r_seq ?_
  refine r_seq ?_
  refine r_reg ?_
  refine ws (st_po (po_move rfl) rfl rfl rfl ?_)
  refine ws (st_po (po_move rfl) rfl rfl rfl ?_)
  refine ws (st_po (po_move rfl) rfl rfl rfl ?_)
  refine ws (st_call (co_fn rfl rfl) (ref_IsCell w h c) (by infer_instance) rfl rfl rfl ?_)
  rintro v12 _ ⟨rfl, rfl⟩
  try dsimp only [List.cons_append, List.nil_append]
  refine ws (st_po (po_not rfl) rfl rfl rfl ?_)
  refine s_nil ?_
  refine at_then_wp ?_
  first | refine r_cond_not rfl ?_ ?_ | refine r_cond_dec rfl ?_ ?_ | refine r_cond rfl ?_ ?_
  · intro hc
    refine r_seq ?_
    refine r_reg ?_
    refine ws (st_po (po_assign rfl) rfl rfl rfl ?_)
    refine s_nil ?_
    refine at_then_wp ?_
    refine r_ret ?_
    refine at_then_ret ?_
    refine at_ret1 rfl (rv_tmp rfl) ⟨_, ⟨by rw [sectorN, if_neg hc], rfl⟩, ?_⟩
    try dsimp only [List.cons_append, List.nil_append]
    exact ent
  · intro hc
    refine r_skip ?_
    refine at_then_wp ?_
    refine r_seq ?_
    refine r_reg ?_
    refine ws (st_po (po_move rfl) rfl rfl rfl ?_)
    refine ws (st_po (po_move rfl) rfl rfl rfl ?_)
    refine ws (st_call (co_fn rfl rfl) (ref_Sectors w h) (by infer_instance) rfl rfl rfl ?_)
    rintro v17 _ ⟨rfl, rfl⟩
    try dsimp only [List.cons_append, List.nil_append]
    refine ws (st_po (po_move rfl) rfl rfl rfl ?_)
    refine ws (st_po (po_extract rfl rfl) rfl rfl rfl ?_)
    refine ws (st_po (po_extract rfl rfl) rfl rfl rfl ?_)
    refine ws (st_po (po_assign rfl) rfl rfl rfl ?_)
    refine ws (st_po (po_assign rfl) rfl rfl rfl ?_)
    refine s_nil ?_
    refine at_then_wp ?_
    refine r_seq ?_
    have hxy := isc_xy hc
    have hbb := may_mul hc.1
    have hb := mul_1k (a := c / w / 16) (b := acrN w) (by omega) (by omega) (by unfold acrN; omega) (by unfold acrN; omega)
    rw [secsN, if_pos hc.1]
    dsimp only
    refine r_ord [] _ [(0, 1), (1, 1), (2, 1), (3, 1), (4, 1), (5, 1), (6, 1), (7, 1), (8, 1), (9, 1), (10, 1), (11, 1)] fc_mixed (by kernel_rfl) (fun _ h => h) ?_
    refine o_fr rfl (po_move rfl) rfl rfl rfl ?_
    refine o_fr rfl (po_move rfl) rfl rfl rfl ?_
    refine o_fr rfl (po_quo' rfl rfl (by omega) (by omega) (by omega)) rfl rfl rfl ?_
    refine o_fr rfl (po_quo' rfl rfl (by omega) (by omega) (by omega)) rfl rfl rfl ?_
    refine o_fr rfl (po_move rfl) rfl rfl rfl ?_
    refine o_fr rfl (po_mul' rfl rfl (by omega) (by omega)) rfl rfl rfl ?_
    refine o_fr rfl (po_move rfl) rfl rfl rfl ?_
    refine o_fr rfl (po_move rfl) rfl rfl rfl ?_
    refine o_fr rfl (po_rem' rfl rfl (by omega) (by omega)) rfl rfl rfl ?_
    refine o_fr rfl (po_quo' rfl rfl (by omega) (by omega) (by omega)) rfl rfl rfl ?_
    refine o_fr rfl (po_add' rfl rfl (by omega) (by omega)) rfl rfl rfl ?_
    refine o_fr rfl (po_assign rfl) rfl rfl rfl ?_
    refine o_nil ?_
    refine at_then_wp ?_
    refine r_ret ?_
    refine at_ret1 rfl (rv_tmp rfl) ⟨_, ⟨by rw [sectorN, if_pos hc], rfl⟩, ?_⟩
    try dsimp only [List.cons_append, List.nil_append]
    exact ent
theorem ref_Size (w h s : Int) : Spec PP 51 #[.int .i64 w, .int .i64 h, .int .i64 s] [] (fun v M => v = .tuple #[.int .i64 (sizeN w h s).1, .int .i64 (sizeN w h s).2] ∧ M = []) := by
  have hb := secs_mul w h
  refine spec_of (Go.Proofs.Tryz.func51) rfl rfl rfl (by exact fc_enters_51) ?_
  intro g F
  try dsimp only [List.cons_append, List.nil_append]
  refine r_seq ?_
  refine r_reg ?_
  refine ws (st_po (po_assign rfl) rfl rfl rfl ?_)
  refine ws (st_po (po_assign rfl) rfl rfl rfl ?_)
  refine s_nil ?_
  refine at_then_wp ?_
  refine r_seq ?_
  refine r_seq ?_
  refine r_reg ?_
  refine ws (st_po (po_move rfl) rfl rfl rfl ?_)
  refine ws (st_po (po_move rfl) rfl rfl rfl ?_)
  refine ws (st_po (po_move rfl) rfl rfl rfl ?_)
  refine ws (st_call (co_fn rfl rfl) (ref_Count w h) (by infer_instance) rfl rfl rfl ?_)
  rintro v13 _ ⟨rfl, rfl⟩
  try dsimp only [List.cons_append, List.nil_append]
  refine ws (st_po (po_sub' rfl rfl (by omega) (by omega)) rfl rfl rfl ?_)
  refine ws (st_call (co_fn rfl rfl) (ref_In s 0 ((secsN w h).1 * (secsN w h).2 - 1)) (by infer_instance) rfl rfl rfl ?_)
  rintro v15 _ ⟨rfl, rfl⟩
  try dsimp only [List.cons_append, List.nil_append]
  refine ws (st_po (po_not rfl) rfl rfl rfl ?_)
  refine s_nil ?_
  refine at_then_wp ?_
  first | refine r_cond_not rfl ?_ ?_ | refine r_cond_dec rfl ?_ ?_ | refine r_cond rfl ?_ ?_
  · intro hs
    refine r_seq ?_
    refine r_reg ?_
    refine ws (st_po (po_assign rfl) rfl rfl rfl ?_)
    refine ws (st_po (po_assign rfl) rfl rfl rfl ?_)
    refine s_nil ?_
    refine at_then_wp ?_
    refine r_ret ?_
    refine at_then_ret ?_
    refine at_ret2 rfl (rv_tmp rfl) (rv_tmp rfl) ⟨_, ⟨by rw [sizeN, if_neg (fun k => hs ⟨k.2.1, by have := k.2.2; rw [secsN, if_pos k.1]; dsimp only; omega⟩)], rfl⟩, ?_⟩
    try dsimp only [List.cons_append, List.nil_append]
    exact ent
  · intro hs
    refine r_skip ?_
    refine at_then_wp ?_
    refine r_seq ?_
    refine r_reg ?_
    refine ws (st_po (po_move rfl) rfl rfl rfl ?_)
    refine ws (st_po (po_move rfl) rfl rfl rfl ?_)
    refine ws (st_call (co_fn rfl rfl) (ref_Sectors w h) (by infer_instance) rfl rfl rfl ?_)
    rintro v20 _ ⟨rfl, rfl⟩
    try dsimp only [List.cons_append, List.nil_append]
    refine ws (st_po (po_move rfl) rfl rfl rfl ?_)
    refine ws (st_po (po_extract rfl rfl) rfl rfl rfl ?_)
    refine ws (st_po (po_extract rfl rfl) rfl rfl rfl ?_)
    refine ws (st_po (po_assign rfl) rfl rfl rfl ?_)
    refine ws (st_po (po_assign rfl) rfl rfl rfl ?_)
    refine s_nil ?_
    refine at_then_wp ?_
    refine r_seq ?_
    have hs2 : IsS w h s := iss_of (by omega) (by omega)
    have hq := iss_xy hs2
    have ha := acr_pos hs2.1
    have hm := hs2.1
    rw [secsN, if_pos hs2.1]
    dsimp only
    refine r_ord [] _ [(0, 1), (1, 1), (2, 1), (3, 1), (4, 1), (5, 1), (6, 1), (7, 1), (8, 1), (9, 1), (10, 1), (11, 1), (12, 1), (13, 1), (14, 1), (15, 1)] fc_mixed (by kernel_rfl) (fun _ h => h) ?_
    refine o_fr rfl (po_move rfl) rfl rfl rfl ?_
    refine o_fr rfl (po_move rfl) rfl rfl rfl ?_
    refine o_fr rfl (po_move rfl) rfl rfl rfl ?_
    refine o_fr rfl (po_rem' rfl rfl (by omega) (by omega)) rfl rfl rfl ?_
    refine o_fr rfl (po_mul' rfl rfl (by omega) (by omega)) rfl rfl rfl ?_
    refine o_fr rfl (po_sub' rfl rfl (by omega) (by omega)) rfl rfl rfl ?_
    refine o_fr rfl (po_min rfl rfl) rfl rfl rfl ?_
    refine o_fr rfl (po_move rfl) rfl rfl rfl ?_
    refine o_fr rfl (po_move rfl) rfl rfl rfl ?_
    refine o_fr rfl (po_move rfl) rfl rfl rfl ?_
    refine o_fr rfl (po_quo' rfl rfl (by omega) (by omega) (by omega)) rfl rfl rfl ?_
    refine o_fr rfl (po_mul' rfl rfl (by omega) (by omega)) rfl rfl rfl ?_
    refine o_fr rfl (po_sub' rfl rfl (by omega) (by omega)) rfl rfl rfl ?_
    refine o_fr rfl (po_min rfl rfl) rfl rfl rfl ?_
    refine o_fr rfl (po_assign rfl) rfl rfl rfl ?_
    refine o_fr rfl (po_assign rfl) rfl rfl rfl ?_
    refine o_nil ?_
    refine at_then_wp ?_
    refine r_ret ?_
    refine at_ret2 rfl (rv_tmp rfl) (rv_tmp rfl) ⟨_, ⟨by rw [sizeN, if_pos hs2, min_ite, min_ite, Int.mul_comm 16, Int.mul_comm 16], rfl⟩, ?_⟩
    try dsimp only [List.cons_append, List.nil_append]
    exact ent
end Hd
end
section
namespace Hd
set_option maxRecDepth 100000
open Go

theorem ref_Global (w h s l : Int) : Spec PP 18 #[.int .i64 w, .int .i64 h, .int .i64 s, .int .i64 l] [] (fun v M => v = .int .i64 (globalN w h s l) ∧ M = []) := by
  have hz := size_le w h s
  have hb := mul_1k (a := (sizeN w h s).1) (b := (sizeN w h s).2) (by omega) (by omega) (by omega) (by omega)
  refine spec_of (Go.Proofs.Tryz.func18) rfl rfl rfl (by exact fc_enters_18) ?_
  intro g F
  try dsimp only [List.cons_append, List.nil_append]
  refine r_seq ?_
  refine r_reg ?_
  refine ws (st_po (po_assign rfl) rfl rfl rfl ?_)
  refine s_nil ?_
  refine at_then_wp ?_
  refine r_seq ?_
  refine r_reg ?_
  refine ws (st_po (po_move rfl) rfl rfl rfl ?_)
  refine ws (st_po (po_move rfl) rfl rfl rfl ?_)
  refine ws (st_po (po_move rfl) rfl rfl rfl ?_)
  refine ws (st_call (co_fn rfl rfl) (ref_Size w h s) (by infer_instance) rfl rfl rfl ?_)
  rintro v17 _ ⟨rfl, rfl⟩
  try dsimp only [List.cons_append, List.nil_append]
  refine ws (st_po (po_move rfl) rfl rfl rfl ?_)
  refine ws (st_po (po_extract rfl rfl) rfl rfl rfl ?_)
  refine ws (st_po (po_extract rfl rfl) rfl rfl rfl ?_)
  refine ws (st_po (po_assign rfl) rfl rfl rfl ?_)
  refine ws (st_po (po_assign rfl) rfl rfl rfl ?_)
  refine s_nil ?_
  refine at_then_wp ?_
  refine r_seq ?_
  refine r_seq ?_
  refine r_reg ?_
  refine ws (st_po (po_move rfl) rfl rfl rfl ?_)
  refine ws (st_po (po_move rfl) rfl rfl rfl ?_)
  refine ws (st_po (po_move rfl) rfl rfl rfl ?_)
  refine ws (st_po (po_mul' rfl rfl (by omega) (by omega)) rfl rfl rfl ?_)
  refine ws (st_po (po_sub' rfl rfl (by omega) (by omega)) rfl rfl rfl ?_)
  refine ws (st_call (co_fn rfl rfl) (ref_In l 0 ((sizeN w h s).1 * (sizeN w h s).2 - 1)) (by infer_instance) rfl rfl rfl ?_)
  rintro v25 _ ⟨rfl, rfl⟩
  try dsimp only [List.cons_append, List.nil_append]
  refine ws (st_po (po_not rfl) rfl rfl rfl ?_)
  refine s_nil ?_
  refine at_then_wp ?_
  first | refine r_cond_not rfl ?_ ?_ | refine r_cond_dec rfl ?_ ?_ | refine r_cond rfl ?_ ?_
  · intro hl
    refine r_seq ?_
    refine r_reg ?_
    refine ws (st_po (po_assign rfl) rfl rfl rfl ?_)
    refine s_nil ?_
    refine at_then_wp ?_
    refine r_ret ?_
    refine at_then_ret ?_
    refine at_ret1 rfl (rv_tmp rfl) ⟨_, ⟨by rw [globalN, if_neg (fun k => hl ⟨k.2.1, by have := k.2.2; omega⟩)], rfl⟩, ?_⟩
    try dsimp only [List.cons_append, List.nil_append]
    exact ent
  · intro hl
    refine r_skip ?_
    refine at_then_wp ?_
    refine r_seq ?_
    have hs2 : IsS w h s := Classical.byContradiction fun hn => by rw [sizeN, if_neg hn] at hl; simp at hl; omega
    have hg := global_xy hs2 hl.1 (by omega)
    have hq := iss_xy hs2
    have ha := acr_pos hs2.1
    have hp := size_pos hs2
    have hm := hs2.1
    have hbm := may_mul hm
    have hs0 := hs2.2
    have hgi := mk_is hm hg.1 hg.2.1
    have h5 := mul_1k (a := acrN w) (b := acrN h) (by omega) (by omega) (by omega) (by omega)
    have h6 : 0 ≤ (s / acrN w * 16 + l / (sizeN w h s).1) * w ∧ (s / acrN w * 16 + l / (sizeN w h s).1) * w ≤ 1048576 := mul_1k (by omega) (by omega) (by omega) (by omega)
    refine r_reg ?_
    refine ws (st_po (po_move rfl) rfl rfl rfl ?_)
    refine ws (st_po (po_move rfl) rfl rfl rfl ?_)
    refine ws (st_call (co_fn rfl rfl) (ref_Sectors w h) (by infer_instance) rfl rfl rfl ?_)
    rintro v30 _ ⟨rfl, rfl⟩
    try dsimp only [List.cons_append, List.nil_append]
    refine ws (st_po (po_move rfl) rfl rfl rfl ?_)
    refine ws (st_po (po_extract rfl rfl) rfl rfl rfl ?_)
    refine ws (st_po (po_extract rfl rfl) rfl rfl rfl ?_)
    refine ws (st_po (po_assign rfl) rfl rfl rfl ?_)
    refine ws (st_po (po_assign rfl) rfl rfl rfl ?_)
    refine s_nil ?_
    refine at_then_wp ?_
    refine r_seq ?_
    rw [secsN, if_pos hm]
    dsimp only
    have h7 : (16 * (s / acrN w) + l / (sizeN w h s).1) * w = (s / acrN w * 16 + l / (sizeN w h s).1) * w := by rw [Int.mul_comm 16]
    refine r_ord [] _ [(0, 1), (1, 1), (2, 1), (3, 1), (4, 1), (5, 1), (6, 1), (7, 1), (8, 1), (9, 1), (10, 1), (11, 1), (12, 1), (13, 1), (14, 1), (15, 1), (16, 1), (17, 1), (18, 1), (19, 1)] fc_mixed (by kernel_rfl) (fun _ h => h) ?_
    refine o_fr rfl (po_move rfl) rfl rfl rfl ?_
    refine o_fr rfl (po_move rfl) rfl rfl rfl ?_
    refine o_fr rfl (po_quo' rfl rfl (by omega) (by omega) (by omega)) rfl rfl rfl ?_
    refine o_fr rfl (po_mul' rfl rfl (by omega) (by omega)) rfl rfl rfl ?_
    refine o_fr rfl (po_move rfl) rfl rfl rfl ?_
    refine o_fr rfl (po_move rfl) rfl rfl rfl ?_
    refine o_fr rfl (po_quo' rfl rfl (by omega) (by omega) (by omega)) rfl rfl rfl ?_
    refine o_fr rfl (po_add' rfl rfl (by omega) (by omega)) rfl rfl rfl ?_
    refine o_fr rfl (po_move rfl) rfl rfl rfl ?_
    refine o_fr rfl (po_mul' rfl rfl (by omega) (by omega)) rfl rfl rfl ?_
    refine o_fr rfl (po_move rfl) rfl rfl rfl ?_
    refine o_fr rfl (po_move rfl) rfl rfl rfl ?_
    refine o_fr rfl (po_rem' rfl rfl (by omega) (by omega)) rfl rfl rfl ?_
    refine o_fr rfl (po_mul' rfl rfl (by omega) (by omega)) rfl rfl rfl ?_
    refine o_fr rfl (po_add' rfl rfl (by omega) (by omega)) rfl rfl rfl ?_
    refine o_fr rfl (po_move rfl) rfl rfl rfl ?_
    refine o_fr rfl (po_move rfl) rfl rfl rfl ?_
    refine o_fr rfl (po_rem' rfl rfl (by omega) (by omega)) rfl rfl rfl ?_
    refine o_fr rfl (po_add' rfl rfl (by omega) (by omega)) rfl rfl rfl ?_
    refine o_fr rfl (po_assign rfl) rfl rfl rfl ?_
    refine o_nil ?_
    refine at_then_wp ?_
    refine r_ret ?_
    refine at_ret1 rfl (rv_tmp rfl) ⟨_, ⟨by rw [globalN, if_pos ⟨hs2, hl.1, by omega⟩, Int.mul_comm 16, Int.mul_comm 16]; congr 1; omega, rfl⟩, ?_⟩
    try dsimp only [List.cons_append, List.nil_append]
    exact ent
theorem ref_Step (w h c k : Int) : Spec PP 19 #[.int .i64 w, .int .i64 h, .int .i64 c, .int .i64 k] [] (fun v M => v = .int .i64 (stepN w h c k) ∧ M = []) := by
  refine spec_of (Go.Proofs.Tryz.func19) rfl rfl rfl (by exact fc_enters_19) ?_
  intro g F
  try dsimp only [List.cons_append, List.nil_append]
  by_cases hc : IsC w h c
  · skip
    obtain ⟨s0, s1, s2, s3⟩ := step_val hc
    have s4 : stepN w h c 4 = c := by rw [step_eq hc (by decide) (by decide)]; have := isc_xy hc; simp only [dx, dy]; simp; rw [cellN, if_pos ⟨hc.1, this.1, this.2.1⟩]; exact this.2.2.symm
    have hxy := isc_xy hc
    have hbm := may_mul hc.1
    have hm := hc.1
    have hnn := Int.mul_nonneg hxy.2.1.1 (show 0 ≤ w by omega)
    refine r_seq ?_
    refine r_reg ?_
    refine ws (st_po (po_assign rfl) rfl rfl rfl ?_)
    refine s_nil ?_
    refine at_then_wp ?_
    refine r_seq ?_
    refine r_seq ?_
    refine r_reg ?_
    refine ws (st_po (po_move rfl) rfl rfl rfl ?_)
    refine ws (st_po (po_move rfl) rfl rfl rfl ?_)
    refine ws (st_po (po_move rfl) rfl rfl rfl ?_)
    refine ws (st_call (co_fn rfl rfl) (ref_IsCell w h c) (by infer_instance) rfl rfl rfl ?_)
    rintro v14 _ ⟨rfl, rfl⟩
    try dsimp only [List.cons_append, List.nil_append]
    refine ws (st_po (po_not rfl) rfl rfl rfl ?_)
    refine ws (st_po (po_bf (po_move rfl) (by simp [hc])) rfl rfl rfl ?_)
    refine ws (st_po (po_move rfl) rfl rfl rfl ?_)
    refine ws (st_call (co_fn rfl rfl) (ref_In k 0 4) (by infer_instance) rfl rfl rfl ?_)
    rintro v18 _ ⟨rfl, rfl⟩
    try dsimp only [List.cons_append, List.nil_append]
    refine ws (st_po (po_not rfl) rfl rfl rfl ?_)
    refine ws (st_po (po_pick_f rfl rfl) rfl rfl rfl ?_)
    refine s_nil ?_
    refine at_then_wp ?_
    first | refine r_cond_not rfl ?_ ?_ | refine r_cond_dec rfl ?_ ?_ | refine r_cond rfl ?_ ?_
    · intro hk
      refine r_seq ?_
      refine r_reg ?_
      refine ws (st_po (po_assign rfl) rfl rfl rfl ?_)
      refine s_nil ?_
      refine at_then_wp ?_
      refine r_ret ?_
      refine at_then_ret ?_
      refine at_ret1 rfl (rv_tmp rfl) ⟨_, ⟨by rw [step_none (fun e => hk e.2)], rfl⟩, ?_⟩
      try dsimp only [List.cons_append, List.nil_append]
      exact ent
    · intro hk
      have hk5 : k = 0 ∨ k = 1 ∨ k = 2 ∨ k = 3 ∨ k = 4 := by omega
      rcases hk5 with rfl | rfl | rfl | rfl | rfl
      · skip
        refine r_skip ?_
        refine at_then_wp ?_
        refine r_seq ?_
        refine r_ord [] _ [(0, 1), (1, 1), (2, 1), (3, 1), (4, 1), (5, 1), (6, 1), (7, 1)] fc_mixed (by kernel_rfl) (fun _ h => h) ?_
        refine o_fr rfl (po_move rfl) rfl rfl rfl ?_
        refine o_fr rfl (po_move rfl) rfl rfl rfl ?_
        refine o_fr rfl (po_rem' rfl rfl (by omega) (by omega)) rfl rfl rfl ?_
        refine o_fr rfl (po_move rfl) rfl rfl rfl ?_
        refine o_fr rfl (po_move rfl) rfl rfl rfl ?_
        refine o_fr rfl (po_quo' rfl rfl (by omega) (by omega) (by omega)) rfl rfl rfl ?_
        refine o_fr rfl (po_assign rfl) rfl rfl rfl ?_
        refine o_fr rfl (po_assign rfl) rfl rfl rfl ?_
        refine o_nil ?_
        refine at_then_wp ?_
        refine r_seq ?_
        refine r_seq ?_
        refine r_reg ?_
        refine ws (st_po (po_move rfl) rfl rfl rfl ?_)
        refine ws (st_po (po_eq rfl rfl) rfl rfl rfl ?_)
        refine s_nil ?_
        refine at_then_wp ?_
        first | refine r_dec_t rfl (rfl) ?_ | refine r_nd_t rfl (rfl) ?_ | refine r_cond_t rfl (rfl) ?_
        refine r_reg ?_
        refine ws (st_po (po_move rfl) rfl rfl rfl ?_)
        refine ws (st_po (po_sub' rfl rfl (by omega) (by omega)) rfl rfl rfl ?_)
        refine ws (st_po (po_assign rfl) rfl rfl rfl ?_)
        refine s_nil ?_
        refine at_then_wp ?_
        refine r_seq ?_
        refine r_seq ?_
        refine r_reg ?_
        refine ws (st_po (po_move rfl) rfl rfl rfl ?_)
        refine ws (st_po (po_eq rfl rfl) rfl rfl rfl ?_)
        refine s_nil ?_
        refine at_then_wp ?_
        first | refine r_dec_f rfl (by decide) ?_ | refine r_nd_f rfl (by decide) ?_ | refine r_cond_f rfl (by decide) ?_
        refine r_skip ?_
        refine at_then_wp ?_
        refine r_seq ?_
        refine r_seq ?_
        refine r_reg ?_
        refine ws (st_po (po_move rfl) rfl rfl rfl ?_)
        refine ws (st_po (po_eq rfl rfl) rfl rfl rfl ?_)
        refine s_nil ?_
        refine at_then_wp ?_
        first | refine r_dec_f rfl (by decide) ?_ | refine r_nd_f rfl (by decide) ?_ | refine r_cond_f rfl (by decide) ?_
        refine r_skip ?_
        refine at_then_wp ?_
        refine r_seq ?_
        refine r_seq ?_
        refine r_reg ?_
        refine ws (st_po (po_move rfl) rfl rfl rfl ?_)
        refine ws (st_po (po_eq rfl rfl) rfl rfl rfl ?_)
        refine s_nil ?_
        refine at_then_wp ?_
        first | refine r_dec_f rfl (by decide) ?_ | refine r_nd_f rfl (by decide) ?_ | refine r_cond_f rfl (by decide) ?_
        refine r_skip ?_
        refine at_then_wp ?_
        refine r_seq ?_
        refine r_seq ?_
        refine r_reg ?_
        refine ws (st_po (po_move rfl) rfl rfl rfl ?_)
        refine ws (st_po (po_move rfl) rfl rfl rfl ?_)
        refine ws (st_po (po_sub' rfl rfl (by omega) (by omega)) rfl rfl rfl ?_)
        refine ws (st_call (co_fn rfl rfl) (ref_In (c % w) 0 (w - 1)) (by infer_instance) rfl rfl rfl ?_)
        rintro v46 _ ⟨rfl, rfl⟩
        try dsimp only [List.cons_append, List.nil_append]
        refine ws (st_po (po_not rfl) rfl rfl rfl ?_)
        refine ws (st_po (po_bf (po_move rfl) (by rw [decide_eq_true (by omega)]; rfl)) rfl rfl rfl ?_)
        refine ws (st_po (po_move rfl) rfl rfl rfl ?_)
        refine ws (st_po (po_move rfl) rfl rfl rfl ?_)
        refine ws (st_po (po_sub' rfl rfl (by omega) (by omega)) rfl rfl rfl ?_)
        refine ws (st_call (co_fn rfl rfl) (ref_In (c / w - 1) 0 (h - 1)) (by infer_instance) rfl rfl rfl ?_)
        rintro v52 _ ⟨rfl, rfl⟩
        try dsimp only [List.cons_append, List.nil_append]
        refine ws (st_po (po_not rfl) rfl rfl rfl ?_)
        refine ws (st_po (po_pick_f rfl rfl) rfl rfl rfl ?_)
        refine s_nil ?_
        refine at_then_wp ?_
        first | refine r_cond_not rfl ?_ ?_ | refine r_cond_dec rfl ?_ ?_ | refine r_cond rfl ?_ ?_
        · intro hy
          refine r_seq ?_
          refine r_reg ?_
          refine ws (st_po (po_assign rfl) rfl rfl rfl ?_)
          refine s_nil ?_
          refine at_then_wp ?_
          refine r_ret ?_
          refine at_then_ret ?_
          refine at_ret1 rfl (rv_tmp rfl) ⟨_, ⟨by rw [s0, if_neg (by omega)], rfl⟩, ?_⟩
          try dsimp only [List.cons_append, List.nil_append]
          exact ent
        · intro hy
          have hmb : 0 ≤ (c / w - 1) * w ∧ (c / w - 1) * w ≤ 1048576 := mul_1k (by omega) (by omega) (by omega) (by omega)
          refine r_skip ?_
          refine at_then_wp ?_
          refine r_seq ?_
          refine r_reg ?_
          refine ws (st_po (po_move rfl) rfl rfl rfl ?_)
          refine ws (st_po (po_move rfl) rfl rfl rfl ?_)
          refine ws (st_po (po_mul' rfl rfl (by omega) (by omega)) rfl rfl rfl ?_)
          refine ws (st_po (po_move rfl) rfl rfl rfl ?_)
          refine ws (st_po (po_add' rfl rfl (by omega) (by omega)) rfl rfl rfl ?_)
          refine ws (st_po (po_assign rfl) rfl rfl rfl ?_)
          refine s_nil ?_
          refine at_then_wp ?_
          refine r_ret ?_
          refine at_ret1 rfl (rv_tmp rfl) ⟨_, ⟨by rw [s0, if_pos (by omega)]; congr 1; rw [Int.sub_mul, Int.one_mul]; omega, rfl⟩, ?_⟩
          try dsimp only [List.cons_append, List.nil_append]
          exact ent
      · skip
        refine r_skip ?_
        refine at_then_wp ?_
        refine r_seq ?_
        refine r_ord [] _ [(0, 1), (1, 1), (2, 1), (3, 1), (4, 1), (5, 1), (6, 1), (7, 1)] fc_mixed (by kernel_rfl) (fun _ h => h) ?_
        refine o_fr rfl (po_move rfl) rfl rfl rfl ?_
        refine o_fr rfl (po_move rfl) rfl rfl rfl ?_
        refine o_fr rfl (po_rem' rfl rfl (by omega) (by omega)) rfl rfl rfl ?_
        refine o_fr rfl (po_move rfl) rfl rfl rfl ?_
        refine o_fr rfl (po_move rfl) rfl rfl rfl ?_
        refine o_fr rfl (po_quo' rfl rfl (by omega) (by omega) (by omega)) rfl rfl rfl ?_
        refine o_fr rfl (po_assign rfl) rfl rfl rfl ?_
        refine o_fr rfl (po_assign rfl) rfl rfl rfl ?_
        refine o_nil ?_
        refine at_then_wp ?_
        refine r_seq ?_
        refine r_seq ?_
        refine r_reg ?_
        refine ws (st_po (po_move rfl) rfl rfl rfl ?_)
        refine ws (st_po (po_eq rfl rfl) rfl rfl rfl ?_)
        refine s_nil ?_
        refine at_then_wp ?_
        first | refine r_dec_f rfl (by decide) ?_ | refine r_nd_f rfl (by decide) ?_ | refine r_cond_f rfl (by decide) ?_
        refine r_skip ?_
        refine at_then_wp ?_
        refine r_seq ?_
        refine r_seq ?_
        refine r_reg ?_
        refine ws (st_po (po_move rfl) rfl rfl rfl ?_)
        refine ws (st_po (po_eq rfl rfl) rfl rfl rfl ?_)
        refine s_nil ?_
        refine at_then_wp ?_
        first | refine r_dec_t rfl (rfl) ?_ | refine r_nd_t rfl (rfl) ?_ | refine r_cond_t rfl (rfl) ?_
        refine r_reg ?_
        refine ws (st_po (po_move rfl) rfl rfl rfl ?_)
        refine ws (st_po (po_add' rfl rfl (by omega) (by omega)) rfl rfl rfl ?_)
        refine ws (st_po (po_assign rfl) rfl rfl rfl ?_)
        refine s_nil ?_
        refine at_then_wp ?_
        refine r_seq ?_
        refine r_seq ?_
        refine r_reg ?_
        refine ws (st_po (po_move rfl) rfl rfl rfl ?_)
        refine ws (st_po (po_eq rfl rfl) rfl rfl rfl ?_)
        refine s_nil ?_
        refine at_then_wp ?_
        first | refine r_dec_f rfl (by decide) ?_ | refine r_nd_f rfl (by decide) ?_ | refine r_cond_f rfl (by decide) ?_
        refine r_skip ?_
        refine at_then_wp ?_
        refine r_seq ?_
        refine r_seq ?_
        refine r_reg ?_
        refine ws (st_po (po_move rfl) rfl rfl rfl ?_)
        refine ws (st_po (po_eq rfl rfl) rfl rfl rfl ?_)
        refine s_nil ?_
        refine at_then_wp ?_
        first | refine r_dec_f rfl (by decide) ?_ | refine r_nd_f rfl (by decide) ?_ | refine r_cond_f rfl (by decide) ?_
        refine r_skip ?_
        refine at_then_wp ?_
        refine r_seq ?_
        refine r_seq ?_
        refine r_reg ?_
        refine ws (st_po (po_move rfl) rfl rfl rfl ?_)
        refine ws (st_po (po_move rfl) rfl rfl rfl ?_)
        refine ws (st_po (po_sub' rfl rfl (by omega) (by omega)) rfl rfl rfl ?_)
        refine ws (st_call (co_fn rfl rfl) (ref_In (c % w + 1) 0 (w - 1)) (by infer_instance) rfl rfl rfl ?_)
        rintro v46 _ ⟨rfl, rfl⟩
        try dsimp only [List.cons_append, List.nil_append]
        refine ws (st_po (po_not rfl) rfl rfl rfl ?_)
        by_cases hx : 0 ≤ c % w + 1 ∧ c % w + 1 ≤ w - 1
        · skip
          refine ws (st_po (po_bf (po_move rfl) (by simp only [decide_eq_true hx]; simp)) rfl rfl rfl ?_)
          refine ws (st_po (po_move rfl) rfl rfl rfl ?_)
          refine ws (st_po (po_move rfl) rfl rfl rfl ?_)
          refine ws (st_po (po_sub' rfl rfl (by omega) (by omega)) rfl rfl rfl ?_)
          refine ws (st_call (co_fn rfl rfl) (ref_In (c / w) 0 (h - 1)) (by infer_instance) rfl rfl rfl ?_)
          rintro v52 _ ⟨rfl, rfl⟩
          try dsimp only [List.cons_append, List.nil_append]
          refine ws (st_po (po_not rfl) rfl rfl rfl ?_)
          refine ws (st_po (po_pick_f rfl rfl) rfl rfl rfl ?_)
          refine s_nil ?_
          refine at_then_wp ?_
          first | refine r_dec_f rfl (by omega) ?_ | refine r_nd_f rfl (by omega) ?_ | refine r_cond_f rfl (by omega) ?_
          refine r_skip ?_
          refine at_then_wp ?_
          refine r_seq ?_
          refine r_reg ?_
          refine ws (st_po (po_move rfl) rfl rfl rfl ?_)
          refine ws (st_po (po_move rfl) rfl rfl rfl ?_)
          refine ws (st_po (po_mul' rfl rfl (by omega) (by omega)) rfl rfl rfl ?_)
          refine ws (st_po (po_move rfl) rfl rfl rfl ?_)
          refine ws (st_po (po_add' rfl rfl (by omega) (by omega)) rfl rfl rfl ?_)
          refine ws (st_po (po_assign rfl) rfl rfl rfl ?_)
          refine s_nil ?_
          refine at_then_wp ?_
          refine r_ret ?_
          refine at_ret1 rfl (rv_tmp rfl) ⟨_, ⟨by rw [s1, if_pos (by omega)]; congr 1; omega, rfl⟩, ?_⟩
          try dsimp only [List.cons_append, List.nil_append]
          exact ent
        · skip
          refine ws (st_po (po_bt (po_move rfl) (by simp only [decide_eq_false hx]; simp)) rfl rfl rfl ?_)
          refine ws (st_no rfl rfl rfl ?_)
          refine ws (st_no rfl rfl rfl ?_)
          refine ws (st_no rfl rfl rfl ?_)
          refine ws (st_no rfl rfl rfl ?_)
          refine ws (st_no rfl rfl rfl ?_)
          refine ws (st_po (po_pick_t rfl rfl) rfl rfl rfl ?_)
          refine s_nil ?_
          refine at_then_wp ?_
          refine r_cond_t rfl rfl ?_
          refine r_seq ?_
          refine r_reg ?_
          refine ws (st_po (po_assign rfl) rfl rfl rfl ?_)
          refine s_nil ?_
          refine at_then_wp ?_
          refine r_ret ?_
          refine at_then_ret ?_
          refine at_ret1 rfl (rv_tmp rfl) ⟨_, ⟨by rw [s1, if_neg (by omega)], rfl⟩, ?_⟩
          try dsimp only [List.cons_append, List.nil_append]
          exact ent
      · skip
        refine r_skip ?_
        refine at_then_wp ?_
        refine r_seq ?_
        refine r_ord [] _ [(0, 1), (1, 1), (2, 1), (3, 1), (4, 1), (5, 1), (6, 1), (7, 1)] fc_mixed (by kernel_rfl) (fun _ h => h) ?_
        refine o_fr rfl (po_move rfl) rfl rfl rfl ?_
        refine o_fr rfl (po_move rfl) rfl rfl rfl ?_
        refine o_fr rfl (po_rem' rfl rfl (by omega) (by omega)) rfl rfl rfl ?_
        refine o_fr rfl (po_move rfl) rfl rfl rfl ?_
        refine o_fr rfl (po_move rfl) rfl rfl rfl ?_
        refine o_fr rfl (po_quo' rfl rfl (by omega) (by omega) (by omega)) rfl rfl rfl ?_
        refine o_fr rfl (po_assign rfl) rfl rfl rfl ?_
        refine o_fr rfl (po_assign rfl) rfl rfl rfl ?_
        refine o_nil ?_
        refine at_then_wp ?_
        refine r_seq ?_
        refine r_seq ?_
        refine r_reg ?_
        refine ws (st_po (po_move rfl) rfl rfl rfl ?_)
        refine ws (st_po (po_eq rfl rfl) rfl rfl rfl ?_)
        refine s_nil ?_
        refine at_then_wp ?_
        first | refine r_dec_f rfl (by decide) ?_ | refine r_nd_f rfl (by decide) ?_ | refine r_cond_f rfl (by decide) ?_
        refine r_skip ?_
        refine at_then_wp ?_
        refine r_seq ?_
        refine r_seq ?_
        refine r_reg ?_
        refine ws (st_po (po_move rfl) rfl rfl rfl ?_)
        refine ws (st_po (po_eq rfl rfl) rfl rfl rfl ?_)
        refine s_nil ?_
        refine at_then_wp ?_
        first | refine r_dec_f rfl (by decide) ?_ | refine r_nd_f rfl (by decide) ?_ | refine r_cond_f rfl (by decide) ?_
        refine r_skip ?_
        refine at_then_wp ?_
        refine r_seq ?_
        refine r_seq ?_
        refine r_reg ?_
        refine ws (st_po (po_move rfl) rfl rfl rfl ?_)
        refine ws (st_po (po_eq rfl rfl) rfl rfl rfl ?_)
        refine s_nil ?_
        refine at_then_wp ?_
        first | refine r_dec_t rfl (rfl) ?_ | refine r_nd_t rfl (rfl) ?_ | refine r_cond_t rfl (rfl) ?_
        refine r_reg ?_
        refine ws (st_po (po_move rfl) rfl rfl rfl ?_)
        refine ws (st_po (po_add' rfl rfl (by omega) (by omega)) rfl rfl rfl ?_)
        refine ws (st_po (po_assign rfl) rfl rfl rfl ?_)
        refine s_nil ?_
        refine at_then_wp ?_
        refine r_seq ?_
        refine r_seq ?_
        refine r_reg ?_
        refine ws (st_po (po_move rfl) rfl rfl rfl ?_)
        refine ws (st_po (po_eq rfl rfl) rfl rfl rfl ?_)
        refine s_nil ?_
        refine at_then_wp ?_
        first | refine r_dec_f rfl (by decide) ?_ | refine r_nd_f rfl (by decide) ?_ | refine r_cond_f rfl (by decide) ?_
        refine r_skip ?_
        refine at_then_wp ?_
        refine r_seq ?_
        refine r_seq ?_
        refine r_reg ?_
        refine ws (st_po (po_move rfl) rfl rfl rfl ?_)
        refine ws (st_po (po_move rfl) rfl rfl rfl ?_)
        refine ws (st_po (po_sub' rfl rfl (by omega) (by omega)) rfl rfl rfl ?_)
        refine ws (st_call (co_fn rfl rfl) (ref_In (c % w) 0 (w - 1)) (by infer_instance) rfl rfl rfl ?_)
        rintro v46 _ ⟨rfl, rfl⟩
        try dsimp only [List.cons_append, List.nil_append]
        refine ws (st_po (po_not rfl) rfl rfl rfl ?_)
        refine ws (st_po (po_bf (po_move rfl) (by rw [decide_eq_true (by omega)]; rfl)) rfl rfl rfl ?_)
        refine ws (st_po (po_move rfl) rfl rfl rfl ?_)
        refine ws (st_po (po_move rfl) rfl rfl rfl ?_)
        refine ws (st_po (po_sub' rfl rfl (by omega) (by omega)) rfl rfl rfl ?_)
        refine ws (st_call (co_fn rfl rfl) (ref_In (c / w + 1) 0 (h - 1)) (by infer_instance) rfl rfl rfl ?_)
        rintro v52 _ ⟨rfl, rfl⟩
        try dsimp only [List.cons_append, List.nil_append]
        refine ws (st_po (po_not rfl) rfl rfl rfl ?_)
        refine ws (st_po (po_pick_f rfl rfl) rfl rfl rfl ?_)
        refine s_nil ?_
        refine at_then_wp ?_
        first | refine r_cond_not rfl ?_ ?_ | refine r_cond_dec rfl ?_ ?_ | refine r_cond rfl ?_ ?_
        · intro hy
          refine r_seq ?_
          refine r_reg ?_
          refine ws (st_po (po_assign rfl) rfl rfl rfl ?_)
          refine s_nil ?_
          refine at_then_wp ?_
          refine r_ret ?_
          refine at_then_ret ?_
          refine at_ret1 rfl (rv_tmp rfl) ⟨_, ⟨by rw [s2, if_neg (by omega)], rfl⟩, ?_⟩
          try dsimp only [List.cons_append, List.nil_append]
          exact ent
        · intro hy
          have hmb : 0 ≤ (c / w + 1) * w ∧ (c / w + 1) * w ≤ 1048576 := mul_1k (by omega) (by omega) (by omega) (by omega)
          refine r_skip ?_
          refine at_then_wp ?_
          refine r_seq ?_
          refine r_reg ?_
          refine ws (st_po (po_move rfl) rfl rfl rfl ?_)
          refine ws (st_po (po_move rfl) rfl rfl rfl ?_)
          refine ws (st_po (po_mul' rfl rfl (by omega) (by omega)) rfl rfl rfl ?_)
          refine ws (st_po (po_move rfl) rfl rfl rfl ?_)
          refine ws (st_po (po_add' rfl rfl (by omega) (by omega)) rfl rfl rfl ?_)
          refine ws (st_po (po_assign rfl) rfl rfl rfl ?_)
          refine s_nil ?_
          refine at_then_wp ?_
          refine r_ret ?_
          refine at_ret1 rfl (rv_tmp rfl) ⟨_, ⟨by rw [s2, if_pos (by omega)]; congr 1; rw [Int.add_mul, Int.one_mul]; omega, rfl⟩, ?_⟩
          try dsimp only [List.cons_append, List.nil_append]
          exact ent
      · skip
        refine r_skip ?_
        refine at_then_wp ?_
        refine r_seq ?_
        refine r_ord [] _ [(0, 1), (1, 1), (2, 1), (3, 1), (4, 1), (5, 1), (6, 1), (7, 1)] fc_mixed (by kernel_rfl) (fun _ h => h) ?_
        refine o_fr rfl (po_move rfl) rfl rfl rfl ?_
        refine o_fr rfl (po_move rfl) rfl rfl rfl ?_
        refine o_fr rfl (po_rem' rfl rfl (by omega) (by omega)) rfl rfl rfl ?_
        refine o_fr rfl (po_move rfl) rfl rfl rfl ?_
        refine o_fr rfl (po_move rfl) rfl rfl rfl ?_
        refine o_fr rfl (po_quo' rfl rfl (by omega) (by omega) (by omega)) rfl rfl rfl ?_
        refine o_fr rfl (po_assign rfl) rfl rfl rfl ?_
        refine o_fr rfl (po_assign rfl) rfl rfl rfl ?_
        refine o_nil ?_
        refine at_then_wp ?_
        refine r_seq ?_
        refine r_seq ?_
        refine r_reg ?_
        refine ws (st_po (po_move rfl) rfl rfl rfl ?_)
        refine ws (st_po (po_eq rfl rfl) rfl rfl rfl ?_)
        refine s_nil ?_
        refine at_then_wp ?_
        first | refine r_dec_f rfl (by decide) ?_ | refine r_nd_f rfl (by decide) ?_ | refine r_cond_f rfl (by decide) ?_
        refine r_skip ?_
        refine at_then_wp ?_
        refine r_seq ?_
        refine r_seq ?_
        refine r_reg ?_
        refine ws (st_po (po_move rfl) rfl rfl rfl ?_)
        refine ws (st_po (po_eq rfl rfl) rfl rfl rfl ?_)
        refine s_nil ?_
        refine at_then_wp ?_
        first | refine r_dec_f rfl (by decide) ?_ | refine r_nd_f rfl (by decide) ?_ | refine r_cond_f rfl (by decide) ?_
        refine r_skip ?_
        refine at_then_wp ?_
        refine r_seq ?_
        refine r_seq ?_
        refine r_reg ?_
        refine ws (st_po (po_move rfl) rfl rfl rfl ?_)
        refine ws (st_po (po_eq rfl rfl) rfl rfl rfl ?_)
        refine s_nil ?_
        refine at_then_wp ?_
        first | refine r_dec_f rfl (by decide) ?_ | refine r_nd_f rfl (by decide) ?_ | refine r_cond_f rfl (by decide) ?_
        refine r_skip ?_
        refine at_then_wp ?_
        refine r_seq ?_
        refine r_seq ?_
        refine r_reg ?_
        refine ws (st_po (po_move rfl) rfl rfl rfl ?_)
        refine ws (st_po (po_eq rfl rfl) rfl rfl rfl ?_)
        refine s_nil ?_
        refine at_then_wp ?_
        first | refine r_dec_t rfl (rfl) ?_ | refine r_nd_t rfl (rfl) ?_ | refine r_cond_t rfl (rfl) ?_
        refine r_reg ?_
        refine ws (st_po (po_move rfl) rfl rfl rfl ?_)
        refine ws (st_po (po_sub' rfl rfl (by omega) (by omega)) rfl rfl rfl ?_)
        refine ws (st_po (po_assign rfl) rfl rfl rfl ?_)
        refine s_nil ?_
        refine at_then_wp ?_
        refine r_seq ?_
        refine r_seq ?_
        refine r_reg ?_
        refine ws (st_po (po_move rfl) rfl rfl rfl ?_)
        refine ws (st_po (po_move rfl) rfl rfl rfl ?_)
        refine ws (st_po (po_sub' rfl rfl (by omega) (by omega)) rfl rfl rfl ?_)
        refine ws (st_call (co_fn rfl rfl) (ref_In (c % w - 1) 0 (w - 1)) (by infer_instance) rfl rfl rfl ?_)
        rintro v46 _ ⟨rfl, rfl⟩
        try dsimp only [List.cons_append, List.nil_append]
        refine ws (st_po (po_not rfl) rfl rfl rfl ?_)
        by_cases hx : 0 ≤ c % w - 1 ∧ c % w - 1 ≤ w - 1
        · skip
          refine ws (st_po (po_bf (po_move rfl) (by simp only [decide_eq_true hx]; simp)) rfl rfl rfl ?_)
          refine ws (st_po (po_move rfl) rfl rfl rfl ?_)
          refine ws (st_po (po_move rfl) rfl rfl rfl ?_)
          refine ws (st_po (po_sub' rfl rfl (by omega) (by omega)) rfl rfl rfl ?_)
          refine ws (st_call (co_fn rfl rfl) (ref_In (c / w) 0 (h - 1)) (by infer_instance) rfl rfl rfl ?_)
          rintro v52 _ ⟨rfl, rfl⟩
          try dsimp only [List.cons_append, List.nil_append]
          refine ws (st_po (po_not rfl) rfl rfl rfl ?_)
          refine ws (st_po (po_pick_f rfl rfl) rfl rfl rfl ?_)
          refine s_nil ?_
          refine at_then_wp ?_
          first | refine r_dec_f rfl (by omega) ?_ | refine r_nd_f rfl (by omega) ?_ | refine r_cond_f rfl (by omega) ?_
          refine r_skip ?_
          refine at_then_wp ?_
          refine r_seq ?_
          refine r_reg ?_
          refine ws (st_po (po_move rfl) rfl rfl rfl ?_)
          refine ws (st_po (po_move rfl) rfl rfl rfl ?_)
          refine ws (st_po (po_mul' rfl rfl (by omega) (by omega)) rfl rfl rfl ?_)
          refine ws (st_po (po_move rfl) rfl rfl rfl ?_)
          refine ws (st_po (po_add' rfl rfl (by omega) (by omega)) rfl rfl rfl ?_)
          refine ws (st_po (po_assign rfl) rfl rfl rfl ?_)
          refine s_nil ?_
          refine at_then_wp ?_
          refine r_ret ?_
          refine at_ret1 rfl (rv_tmp rfl) ⟨_, ⟨by rw [s3, if_pos (by omega)]; congr 1; omega, rfl⟩, ?_⟩
          try dsimp only [List.cons_append, List.nil_append]
          exact ent
        · skip
          refine ws (st_po (po_bt (po_move rfl) (by simp only [decide_eq_false hx]; simp)) rfl rfl rfl ?_)
          refine ws (st_no rfl rfl rfl ?_)
          refine ws (st_no rfl rfl rfl ?_)
          refine ws (st_no rfl rfl rfl ?_)
          refine ws (st_no rfl rfl rfl ?_)
          refine ws (st_no rfl rfl rfl ?_)
          refine ws (st_po (po_pick_t rfl rfl) rfl rfl rfl ?_)
          refine s_nil ?_
          refine at_then_wp ?_
          refine r_cond_t rfl rfl ?_
          refine r_seq ?_
          refine r_reg ?_
          refine ws (st_po (po_assign rfl) rfl rfl rfl ?_)
          refine s_nil ?_
          refine at_then_wp ?_
          refine r_ret ?_
          refine at_then_ret ?_
          refine at_ret1 rfl (rv_tmp rfl) ⟨_, ⟨by rw [s3, if_neg (by omega)], rfl⟩, ?_⟩
          try dsimp only [List.cons_append, List.nil_append]
          exact ent
      · skip
        refine r_skip ?_
        refine at_then_wp ?_
        refine r_seq ?_
        refine r_ord [] _ [(0, 1), (1, 1), (2, 1), (3, 1), (4, 1), (5, 1), (6, 1), (7, 1)] fc_mixed (by kernel_rfl) (fun _ h => h) ?_
        refine o_fr rfl (po_move rfl) rfl rfl rfl ?_
        refine o_fr rfl (po_move rfl) rfl rfl rfl ?_
        refine o_fr rfl (po_rem' rfl rfl (by omega) (by omega)) rfl rfl rfl ?_
        refine o_fr rfl (po_move rfl) rfl rfl rfl ?_
        refine o_fr rfl (po_move rfl) rfl rfl rfl ?_
        refine o_fr rfl (po_quo' rfl rfl (by omega) (by omega) (by omega)) rfl rfl rfl ?_
        refine o_fr rfl (po_assign rfl) rfl rfl rfl ?_
        refine o_fr rfl (po_assign rfl) rfl rfl rfl ?_
        refine o_nil ?_
        refine at_then_wp ?_
        refine r_seq ?_
        refine r_seq ?_
        refine r_reg ?_
        refine ws (st_po (po_move rfl) rfl rfl rfl ?_)
        refine ws (st_po (po_eq rfl rfl) rfl rfl rfl ?_)
        refine s_nil ?_
        refine at_then_wp ?_
        first | refine r_dec_f rfl (by decide) ?_ | refine r_nd_f rfl (by decide) ?_ | refine r_cond_f rfl (by decide) ?_
        refine r_skip ?_
        refine at_then_wp ?_
        refine r_seq ?_
        refine r_seq ?_
        refine r_reg ?_
        refine ws (st_po (po_move rfl) rfl rfl rfl ?_)
        refine ws (st_po (po_eq rfl rfl) rfl rfl rfl ?_)
        refine s_nil ?_
        refine at_then_wp ?_
        first | refine r_dec_f rfl (by decide) ?_ | refine r_nd_f rfl (by decide) ?_ | refine r_cond_f rfl (by decide) ?_
        refine r_skip ?_
        refine at_then_wp ?_
        refine r_seq ?_
        refine r_seq ?_
        refine r_reg ?_
        refine ws (st_po (po_move rfl) rfl rfl rfl ?_)
        refine ws (st_po (po_eq rfl rfl) rfl rfl rfl ?_)
        refine s_nil ?_
        refine at_then_wp ?_
        first | refine r_dec_f rfl (by decide) ?_ | refine r_nd_f rfl (by decide) ?_ | refine r_cond_f rfl (by decide) ?_
        refine r_skip ?_
        refine at_then_wp ?_
        refine r_seq ?_
        refine r_seq ?_
        refine r_reg ?_
        refine ws (st_po (po_move rfl) rfl rfl rfl ?_)
        refine ws (st_po (po_eq rfl rfl) rfl rfl rfl ?_)
        refine s_nil ?_
        refine at_then_wp ?_
        first | refine r_dec_f rfl (by decide) ?_ | refine r_nd_f rfl (by decide) ?_ | refine r_cond_f rfl (by decide) ?_
        refine r_skip ?_
        refine at_then_wp ?_
        refine r_seq ?_
        refine r_seq ?_
        refine r_reg ?_
        refine ws (st_po (po_move rfl) rfl rfl rfl ?_)
        refine ws (st_po (po_move rfl) rfl rfl rfl ?_)
        refine ws (st_po (po_sub' rfl rfl (by omega) (by omega)) rfl rfl rfl ?_)
        refine ws (st_call (co_fn rfl rfl) (ref_In (c % w) 0 (w - 1)) (by infer_instance) rfl rfl rfl ?_)
        rintro v46 _ ⟨rfl, rfl⟩
        try dsimp only [List.cons_append, List.nil_append]
        refine ws (st_po (po_not rfl) rfl rfl rfl ?_)
        refine ws (st_po (po_bf (po_move rfl) (by rw [decide_eq_true (by omega)]; rfl)) rfl rfl rfl ?_)
        refine ws (st_po (po_move rfl) rfl rfl rfl ?_)
        refine ws (st_po (po_move rfl) rfl rfl rfl ?_)
        refine ws (st_po (po_sub' rfl rfl (by omega) (by omega)) rfl rfl rfl ?_)
        refine ws (st_call (co_fn rfl rfl) (ref_In (c / w) 0 (h - 1)) (by infer_instance) rfl rfl rfl ?_)
        rintro v52 _ ⟨rfl, rfl⟩
        try dsimp only [List.cons_append, List.nil_append]
        refine ws (st_po (po_not rfl) rfl rfl rfl ?_)
        refine ws (st_po (po_pick_f rfl rfl) rfl rfl rfl ?_)
        refine s_nil ?_
        refine at_then_wp ?_
        first | refine r_dec_f rfl (by omega) ?_ | refine r_nd_f rfl (by omega) ?_ | refine r_cond_f rfl (by omega) ?_
        refine r_skip ?_
        refine at_then_wp ?_
        refine r_seq ?_
        refine r_reg ?_
        refine ws (st_po (po_move rfl) rfl rfl rfl ?_)
        refine ws (st_po (po_move rfl) rfl rfl rfl ?_)
        refine ws (st_po (po_mul' rfl rfl (by omega) (by omega)) rfl rfl rfl ?_)
        refine ws (st_po (po_move rfl) rfl rfl rfl ?_)
        refine ws (st_po (po_add' rfl rfl (by omega) (by omega)) rfl rfl rfl ?_)
        refine ws (st_po (po_assign rfl) rfl rfl rfl ?_)
        refine s_nil ?_
        refine at_then_wp ?_
        refine r_ret ?_
        refine at_ret1 rfl (rv_tmp rfl) ⟨_, ⟨by rw [s4]; congr 1; omega, rfl⟩, ?_⟩
        try dsimp only [List.cons_append, List.nil_append]
        exact ent
  · skip
    refine r_seq ?_
    refine r_reg ?_
    refine ws (st_po (po_assign rfl) rfl rfl rfl ?_)
    refine s_nil ?_
    refine at_then_wp ?_
    refine r_seq ?_
    refine r_seq ?_
    refine r_reg ?_
    refine ws (st_po (po_move rfl) rfl rfl rfl ?_)
    refine ws (st_po (po_move rfl) rfl rfl rfl ?_)
    refine ws (st_po (po_move rfl) rfl rfl rfl ?_)
    refine ws (st_call (co_fn rfl rfl) (ref_IsCell w h c) (by infer_instance) rfl rfl rfl ?_)
    rintro v14 _ ⟨rfl, rfl⟩
    try dsimp only [List.cons_append, List.nil_append]
    refine ws (st_po (po_not rfl) rfl rfl rfl ?_)
    refine ws (st_po (po_bt (po_move rfl) (by simp [hc])) rfl rfl rfl ?_)
    refine ws (st_no rfl rfl rfl ?_)
    refine ws (st_no rfl rfl rfl ?_)
    refine ws (st_no rfl rfl rfl ?_)
    refine ws (st_po (po_pick_t rfl rfl) rfl rfl rfl ?_)
    refine s_nil ?_
    refine at_then_wp ?_
    refine r_cond_t rfl rfl ?_
    refine r_seq ?_
    refine r_reg ?_
    refine ws (st_po (po_assign rfl) rfl rfl rfl ?_)
    refine s_nil ?_
    refine at_then_wp ?_
    refine r_ret ?_
    refine at_then_ret ?_
    refine at_ret1 rfl (rv_tmp rfl) ⟨_, ⟨by rw [step_none (fun e => hc e.1)], rfl⟩, ?_⟩
    try dsimp only [List.cons_append, List.nil_append]
    exact ent
end Hd
end
section
namespace Hd
set_option maxRecDepth 100000
open Go

theorem ref_Local (w h c : Int) : Spec PP 36 #[.int .i64 w, .int .i64 h, .int .i64 c] [] (fun v M => v = .int .i64 (localN w h c) ∧ M = []) := by
  refine spec_of (Go.Proofs.Tryz.func36) rfl rfl rfl (by exact fc_enters_36) ?_
  intro g F
  try dsimp only [List.cons_append, List.nil_append]
  by_cases hc : IsC w h c
  · skip
    have hs := sector_lt hc
    have hs0 := hs.1.2.1
    have hs1 := hs.1.2.2
    have hxy := isc_xy hc
    have hm := hc.1
    have hbm := may_mul hm
    have ha := acr_pos hm
    have h5 := mul_1k (a := acrN w) (b := acrN h) (by omega) (by omega) (by omega) (by omega)
    have hz := size_le w h (sectorN w h c)
    have h6 : 0 ≤ (c / w % 16) * (sizeN w h (sectorN w h c)).1 ∧ (c / w % 16) * (sizeN w h (sectorN w h c)).1 ≤ 1048576 := mul_1k (by omega) (by omega) (by omega) (by omega)
    have e1 : c / w - 16 * (sectorN w h c / acrN w) = c / w % 16 := by rw [hs.2.2]; omega
    have e2 : 16 * (sectorN w h c % acrN w) = 16 * (c % w / 16) := by rw [hs.2.1]
    have h7 : (c / w - 16 * (sectorN w h c / acrN w)) * (sizeN w h (sectorN w h c)).1 = (c / w % 16) * (sizeN w h (sectorN w h c)).1 := by rw [e1]
    have h8 : 0 ≤ sectorN w h c / acrN w ∧ sectorN w h c / acrN w ≤ 64 := by rw [hs.2.2]; omega
    have h9 : 0 ≤ sectorN w h c % acrN w ∧ sectorN w h c % acrN w ≤ 64 := by rw [hs.2.1]; omega
    refine r_seq ?_
    refine r_reg ?_
    refine ws (st_po (po_assign rfl) rfl rfl rfl ?_)
    refine s_nil ?_
    refine at_then_wp ?_
    refine r_seq ?_
    refine r_reg ?_
    refine ws (st_po (po_move rfl) rfl rfl rfl ?_)
    refine ws (st_po (po_move rfl) rfl rfl rfl ?_)
    refine ws (st_po (po_move rfl) rfl rfl rfl ?_)
    refine ws (st_call (co_fn rfl rfl) (ref_Sector w h c) (by infer_instance) rfl rfl rfl ?_)
    rintro v15 _ ⟨rfl, rfl⟩
    try dsimp only [List.cons_append, List.nil_append]
    refine ws (st_po (po_assign rfl) rfl rfl rfl ?_)
    refine s_nil ?_
    refine at_then_wp ?_
    refine r_seq ?_
    refine r_seq ?_
    refine r_reg ?_
    refine ws (st_po (po_move rfl) rfl rfl rfl ?_)
    refine ws (st_po (po_lt rfl rfl) rfl rfl rfl ?_)
    refine s_nil ?_
    refine at_then_wp ?_
    first | refine r_dec_f rfl (by omega) ?_ | refine r_nd_f rfl (by omega) ?_ | refine r_cond_f rfl (by omega) ?_
    refine r_skip ?_
    refine at_then_wp ?_
    refine r_seq ?_
    refine r_reg ?_
    refine ws (st_po (po_move rfl) rfl rfl rfl ?_)
    refine ws (st_po (po_move rfl) rfl rfl rfl ?_)
    refine ws (st_call (co_fn rfl rfl) (ref_Sectors w h) (by infer_instance) rfl rfl rfl ?_)
    rintro v21 _ ⟨rfl, rfl⟩
    try dsimp only [List.cons_append, List.nil_append]
    refine ws (st_po (po_move rfl) rfl rfl rfl ?_)
    refine ws (st_po (po_extract rfl rfl) rfl rfl rfl ?_)
    refine ws (st_po (po_extract rfl rfl) rfl rfl rfl ?_)
    refine ws (st_po (po_assign rfl) rfl rfl rfl ?_)
    refine ws (st_po (po_assign rfl) rfl rfl rfl ?_)
    refine s_nil ?_
    refine at_then_wp ?_
    refine r_seq ?_
    rw [secsN, if_pos hm]
    dsimp only
    refine r_reg ?_
    refine ws (st_po (po_move rfl) rfl rfl rfl ?_)
    refine ws (st_po (po_move rfl) rfl rfl rfl ?_)
    refine ws (st_po (po_move rfl) rfl rfl rfl ?_)
    refine ws (st_call (co_fn rfl rfl) (ref_Size w h (sectorN w h c)) (by infer_instance) rfl rfl rfl ?_)
    rintro v28 _ ⟨rfl, rfl⟩
    try dsimp only [List.cons_append, List.nil_append]
    refine ws (st_po (po_move rfl) rfl rfl rfl ?_)
    refine ws (st_po (po_extract rfl rfl) rfl rfl rfl ?_)
    refine ws (st_po (po_extract rfl rfl) rfl rfl rfl ?_)
    refine ws (st_po (po_assign rfl) rfl rfl rfl ?_)
    refine ws (st_po (po_assign rfl) rfl rfl rfl ?_)
    refine s_nil ?_
    refine at_then_wp ?_
    refine r_seq ?_
    refine r_ord [] _ [(0, 1), (1, 1), (2, 1), (3, 1), (4, 1), (5, 1), (6, 1), (7, 1), (8, 1), (9, 1), (10, 1), (11, 1), (12, 1), (13, 1), (14, 1), (15, 1), (16, 1), (17, 1), (18, 1), (19, 1)] fc_mixed (by kernel_rfl) (fun _ h => h) ?_
    refine o_fr rfl (po_move rfl) rfl rfl rfl ?_
    refine o_fr rfl (po_move rfl) rfl rfl rfl ?_
    refine o_fr rfl (po_quo' rfl rfl (by omega) (by omega) (by omega)) rfl rfl rfl ?_
    refine o_fr rfl (po_move rfl) rfl rfl rfl ?_
    refine o_fr rfl (po_move rfl) rfl rfl rfl ?_
    refine o_fr rfl (po_quo' rfl rfl (by omega) (by omega) (by omega)) rfl rfl rfl ?_
    refine o_fr rfl (po_mul' rfl rfl (by omega) (by omega)) rfl rfl rfl ?_
    refine o_fr rfl (po_sub' rfl rfl (by omega) (by omega)) rfl rfl rfl ?_
    refine o_fr rfl (po_move rfl) rfl rfl rfl ?_
    refine o_fr rfl (po_mul' rfl rfl (by omega) (by omega)) rfl rfl rfl ?_
    refine o_fr rfl (po_move rfl) rfl rfl rfl ?_
    refine o_fr rfl (po_move rfl) rfl rfl rfl ?_
    refine o_fr rfl (po_rem' rfl rfl (by omega) (by omega)) rfl rfl rfl ?_
    refine o_fr rfl (po_add' rfl rfl (by omega) (by omega)) rfl rfl rfl ?_
    refine o_fr rfl (po_move rfl) rfl rfl rfl ?_
    refine o_fr rfl (po_move rfl) rfl rfl rfl ?_
    refine o_fr rfl (po_rem' rfl rfl (by omega) (by omega)) rfl rfl rfl ?_
    refine o_fr rfl (po_mul' rfl rfl (by omega) (by omega)) rfl rfl rfl ?_
    refine o_fr rfl (po_sub' rfl rfl (by omega) (by omega)) rfl rfl rfl ?_
    refine o_fr rfl (po_assign rfl) rfl rfl rfl ?_
    refine o_nil ?_
    refine at_then_wp ?_
    refine r_ret ?_
    refine at_ret1 rfl (rv_tmp rfl) ⟨_, ⟨by rw [localN, if_pos hc, h7, e2]; congr 1; omega, rfl⟩, ?_⟩
    try dsimp only [List.cons_append, List.nil_append]
    exact ent
  · skip
    refine r_seq ?_
    refine r_reg ?_
    refine ws (st_po (po_assign rfl) rfl rfl rfl ?_)
    refine s_nil ?_
    refine at_then_wp ?_
    refine r_seq ?_
    refine r_reg ?_
    refine ws (st_po (po_move rfl) rfl rfl rfl ?_)
    refine ws (st_po (po_move rfl) rfl rfl rfl ?_)
    refine ws (st_po (po_move rfl) rfl rfl rfl ?_)
    refine ws (st_call (co_fn rfl rfl) (ref_Sector w h c) (by infer_instance) rfl rfl rfl ?_)
    rintro v15 _ ⟨rfl, rfl⟩
    try dsimp only [List.cons_append, List.nil_append]
    rw [sectorN, if_neg hc]
    refine ws (st_po (po_assign rfl) rfl rfl rfl ?_)
    refine s_nil ?_
    refine at_then_wp ?_
    refine r_seq ?_
    refine r_seq ?_
    refine r_reg ?_
    refine ws (st_po (po_move rfl) rfl rfl rfl ?_)
    refine ws (st_po (po_lt rfl rfl) rfl rfl rfl ?_)
    refine s_nil ?_
    refine at_then_wp ?_
    first | refine r_dec_t rfl (by decide) ?_ | refine r_nd_t rfl (by decide) ?_ | refine r_cond_t rfl (by decide) ?_
    refine r_seq ?_
    refine r_reg ?_
    refine ws (st_po (po_assign rfl) rfl rfl rfl ?_)
    refine s_nil ?_
    refine at_then_wp ?_
    refine r_ret ?_
    refine at_then_ret ?_
    refine at_ret1 rfl (rv_tmp rfl) ⟨_, ⟨by rw [localN, if_neg hc], rfl⟩, ?_⟩
    try dsimp only [List.cons_append, List.nil_append]
    exact ent
/-- the cost of a number -/
def costB (x : Int) : Int := if x % 8 = 7 then 255 else if x < 160 then 1 + x % 4 else x
theorem ref_Cost (x : Int) (h0 : 0 ≤ x) (h1 : x ≤ 255) : Spec PP 27 #[.int .u8 x] [] (fun v M => v = .int .u8 (costB x) ∧ M = []) := by
  refine spec_of (Go.Proofs.Tryz.func27) rfl rfl rfl (by exact fc_enters_27) ?_
  intro g F
  try dsimp only [List.cons_append, List.nil_append]
  refine r_seq ?_
  refine r_reg ?_
  refine ws (st_po (po_assign rfl) rfl rfl rfl ?_)
  refine s_nil ?_
  refine at_then_wp ?_
  refine r_seq ?_
  refine r_seq ?_
  refine r_reg ?_
  refine ws (st_po (po_move rfl) rfl rfl rfl ?_)
  refine ws (st_po (po_rem_u rfl rfl (by omega) (by omega)) rfl rfl rfl ?_)
  refine ws (st_po (po_eq rfl rfl) rfl rfl rfl ?_)
  refine s_nil ?_
  refine at_then_wp ?_
  first | refine r_cond_not rfl ?_ ?_ | refine r_cond_dec rfl ?_ ?_ | refine r_cond rfl ?_ ?_
  · intro h7
    refine r_seq ?_
    refine r_reg ?_
    refine ws (st_po (po_assign rfl) rfl rfl rfl ?_)
    refine s_nil ?_
    refine at_then_wp ?_
    refine r_ret ?_
    refine at_then_ret ?_
    refine at_ret1 rfl (rv_tmp rfl) ⟨_, ⟨by rw [costB, if_pos h7], rfl⟩, ?_⟩
    try dsimp only [List.cons_append, List.nil_append]
    exact ent
  · intro h7
    refine r_skip ?_
    refine at_then_wp ?_
    refine r_seq ?_
    refine r_seq ?_
    refine r_reg ?_
    refine ws (st_po (po_move rfl) rfl rfl rfl ?_)
    refine ws (st_po (po_lt rfl rfl) rfl rfl rfl ?_)
    refine s_nil ?_
    refine at_then_wp ?_
    first | refine r_cond_not rfl ?_ ?_ | refine r_cond_dec rfl ?_ ?_ | refine r_cond rfl ?_ ?_
    · intro h8
      refine r_seq ?_
      refine r_reg ?_
      refine ws (st_po (po_move rfl) rfl rfl rfl ?_)
      refine ws (st_po (po_rem_u rfl rfl (by omega) (by omega)) rfl rfl rfl ?_)
      refine ws (st_po (po_add_w rfl rfl (wrap_u8 _ (by omega) (by omega))) rfl rfl rfl ?_)
      refine ws (st_po (po_assign rfl) rfl rfl rfl ?_)
      refine s_nil ?_
      refine at_then_wp ?_
      refine r_ret ?_
      refine at_then_ret ?_
      refine at_ret1 rfl (rv_tmp rfl) ⟨_, ⟨by rw [costB, if_neg h7, if_pos h8], rfl⟩, ?_⟩
      try dsimp only [List.cons_append, List.nil_append]
      exact ent
    · intro h8
      refine r_skip ?_
      refine at_then_wp ?_
      refine r_seq ?_
      refine r_reg ?_
      refine ws (st_po (po_move rfl) rfl rfl rfl ?_)
      refine ws (st_po (po_assign rfl) rfl rfl rfl ?_)
      refine s_nil ?_
      refine at_then_wp ?_
      refine r_ret ?_
      refine at_ret1 rfl (rv_tmp rfl) ⟨_, ⟨by rw [costB, if_neg h7, if_neg h8], rfl⟩, ?_⟩
      try dsimp only [List.cons_append, List.nil_append]
      exact ent
theorem ref_full (cv : Value) (c : List Int) (hl : c.length ≤ 2^30) : Spec PP 81 #[cv] [Sl eB cv c] (fun v M => v = .bool (!decide ((0 : Int) ∈ c)) ∧ M = [Sl eB cv c]) := by
  refine spec_of (Go.Proofs.Tryz.func81) rfl rfl rfl (by exact fc_enters_81) ?_
  intro g F
  try dsimp only [List.cons_append, List.nil_append]
  refine r_seq ?_
  refine r_reg ?_
  refine ws (st_po (po_assign rfl) rfl rfl rfl ?_)
  refine s_nil ?_
  refine at_then_wp ?_
  refine r_seq ?_
  refine r_seq ?_
  refine r_reg ?_
  refine ws (st_po (po_assign rfl) rfl rfl rfl ?_)
  refine s_nil ?_
  refine at_then_wp ?_
  refine r_block ?_
  refine r_loop (S := Nat) (fun k => [(3, .int .i64 k)]) [(0, _)] (fun k => [Sl eB cv c, F]) (fun k => k ≤ c.length ∧ ∀ j, (h : j < c.length) → j < k → c[j] ≠ 0) (fun k => c.length - k) (0) (And.intro rfl (trivial)) (And.intro rfl (trivial)) (⟨by omega, fun j _ h => by omega⟩) ent ?_
  rintro k ⟨hk, hne⟩
  try dsimp only [List.cons_append, List.nil_append]
  refine r_seq ?_
  refine r_seq ?_
  refine r_reg ?_
  refine ws (st_po (po_move rfl) rfl rfl rfl ?_)
  refine ws (st_po (po_move rfl) rfl rfl rfl ?_)
  refine ws (st_po (po_len rfl (by exact fc_slice_22_5_1)) rfl rfl rfl ?_)
  refine ws (st_po (po_lt rfl rfl) rfl rfl rfl ?_)
  refine s_nil ?_
  refine at_then_wp ?_
  first | refine r_cond_not rfl ?_ ?_ | refine r_cond_dec rfl ?_ ?_ | refine r_cond rfl ?_ ?_
  · intro hlt
    refine r_skip ?_
    refine at_then_wp ?_
    refine r_seq ?_
    refine r_block ?_
    refine r_seq ?_
    refine r_reg ?_
    refine ws (st_po (po_move rfl) rfl rfl rfl ?_)
    refine ws (st_po (po_move rfl) rfl rfl rfl ?_)
    refine ws (st_po (po_iaddr rfl rfl (by exact fc_slice_22_5_1) (by first | omega | (simp only [List.length_nil, List.length_cons, List.length_append, List.length_replicate, List.length_set, List.length_map, List.length_take, List.length_drop]; omega)) (by first | omega | (simp only [List.length_nil, List.length_cons, List.length_append, List.length_replicate, List.length_set, List.length_map, List.length_take, List.length_drop]; omega))) rfl rfl rfl ?_)
    refine ws (st_po (po_load_sl rfl (List.getElem?_eq_getElem (by first | omega | (simp only [List.length_nil, List.length_cons, List.length_append, List.length_replicate, List.length_set, List.length_map, List.length_take, List.length_drop]; omega))) (by exact fc_flat_5) (by rfl)) rfl rfl rfl ?_)
    refine ws (st_po (po_eq rfl rfl) rfl rfl rfl ?_)
    refine s_nil ?_
    refine at_then_wp ?_
    first | refine r_cond_not rfl ?_ ?_ | refine r_cond_dec rfl ?_ ?_ | refine r_cond rfl ?_ ?_
    · intro heq
      refine r_seq ?_
      refine r_reg ?_
      refine ws (st_po (po_assign rfl) rfl rfl rfl ?_)
      refine s_nil ?_
      refine at_then_wp ?_
      refine r_ret ?_
      refine at_block_ret ?_
      refine at_then_ret ?_
      refine at_then_ret ?_
      refine at_block_ret ?_
      refine at_then_ret ?_
      refine at_ret1 rfl (rv_tmp rfl) ⟨_, ⟨by rw [decide_eq_true (by rw [← heq]; exact List.getElem_mem _)]; rfl, rfl⟩, ?_⟩
      try dsimp only [List.cons_append, List.nil_append]
      exact ent
    · intro heq
      refine r_skip ?_
      refine at_block_normal ?_
      refine at_then_wp ?_
      refine r_reg ?_
      refine ws (st_po (po_move rfl) rfl rfl rfl ?_)
      refine ws (st_po (po_add' rfl rfl (by omega) (by omega)) rfl rfl rfl ?_)
      refine ws (st_po (po_assign rfl) rfl rfl rfl ?_)
      refine s_nil ?_
      exact at_again (k + 1) (And.intro rfl (trivial)) (And.intro rfl (trivial)) (⟨by omega, fun j hj h => by by_cases e : j = k; (subst e; simpa using heq); exact hne j hj (by omega)⟩) (by omega) ent
  · intro hlt
    refine r_exit ?_
    refine at_then_exit ?_
    refine at_then_exit ?_
    refine at_block_here ?_
    refine at_then_wp ?_
    refine r_seq ?_
    refine r_reg ?_
    refine ws (st_po (po_assign rfl) rfl rfl rfl ?_)
    refine s_nil ?_
    refine at_then_wp ?_
    refine r_ret ?_
    refine at_ret1 rfl (rv_tmp rfl) ⟨_, ⟨by rw [decide_eq_false (fun h => by obtain ⟨j, hj, e⟩ := List.getElem_of_mem h; exact hne j hj (by omega) e)]; rfl, rfl⟩, ?_⟩
    try dsimp only [List.cons_append, List.nil_append]
    exact ent
theorem ref_Ints (av bv : Value) (a b : List Int) (hl : a.length ≤ 2^30) : Spec PP 57 #[av, bv] [Sl eI av a, Sl eI bv b] (fun v M => v = .bool (decide (a = b)) ∧ M = [Sl eI av a, Sl eI bv b]) := by
  refine spec_of (Go.Proofs.Tryz.func57) rfl rfl rfl (by exact fc_enters_57) ?_
  intro g F
  try dsimp only [List.cons_append, List.nil_append]
  refine r_seq ?_
  refine r_reg ?_
  refine ws (st_po (po_assign rfl) rfl rfl rfl ?_)
  refine s_nil ?_
  refine at_then_wp ?_
  refine r_seq ?_
  refine r_seq ?_
  refine r_reg ?_
  refine ws (st_po (po_move rfl) rfl rfl rfl ?_)
  refine ws (st_po (po_len rfl (by exact fc_slice_35_3_1)) rfl rfl rfl ?_)
  refine ws (st_po (po_move rfl) rfl rfl rfl ?_)
  refine ws (st_po (po_len rfl (by exact fc_slice_35_3_1)) rfl rfl rfl ?_)
  refine ws (st_po (po_ne rfl rfl) rfl rfl rfl ?_)
  refine s_nil ?_
  refine at_then_wp ?_
  first | refine r_cond_not rfl ?_ ?_ | refine r_cond_dec rfl ?_ ?_ | refine r_cond rfl ?_ ?_
  · intro h0
    refine r_seq ?_
    refine r_reg ?_
    refine ws (st_po (po_assign rfl) rfl rfl rfl ?_)
    refine s_nil ?_
    refine at_then_wp ?_
    refine r_ret ?_
    refine at_then_ret ?_
    refine at_ret1 rfl (rv_tmp rfl) ⟨_, ⟨by rw [decide_eq_false (fun e => h0 (by rw [e]))], rfl⟩, ?_⟩
    try dsimp only [List.cons_append, List.nil_append]
    exact ent
  · intro h0
    refine r_skip ?_
    refine at_then_wp ?_
    refine r_seq ?_
    refine r_seq ?_
    refine r_reg ?_
    refine ws (st_po (po_assign rfl) rfl rfl rfl ?_)
    refine s_nil ?_
    refine at_then_wp ?_
    refine r_block ?_
    refine r_loop (S := Nat) (fun k => [(5, .int .i64 k)]) [(0, _), (1, _)] (fun k => [Sl eI av a, Sl eI bv b, F]) (fun k => k ≤ a.length ∧ a.length = b.length ∧ a.take k = b.take k) (fun k => a.length - k) (0) (And.intro rfl (And.intro rfl (trivial))) (And.intro rfl (trivial)) (⟨by omega, by omega, by simp⟩) ent ?_
    rintro k ⟨hk, hll, hne⟩
    try dsimp only [List.cons_append, List.nil_append]
    refine r_seq ?_
    refine r_seq ?_
    refine r_reg ?_
    refine ws (st_po (po_move rfl) rfl rfl rfl ?_)
    refine ws (st_po (po_move rfl) rfl rfl rfl ?_)
    refine ws (st_po (po_len rfl (by exact fc_slice_35_3_1)) rfl rfl rfl ?_)
    refine ws (st_po (po_lt rfl rfl) rfl rfl rfl ?_)
    refine s_nil ?_
    refine at_then_wp ?_
    first | refine r_cond_not rfl ?_ ?_ | refine r_cond_dec rfl ?_ ?_ | refine r_cond rfl ?_ ?_
    · intro hlt
      refine r_skip ?_
      refine at_then_wp ?_
      refine r_seq ?_
      refine r_block ?_
      refine r_seq ?_
      refine r_ord [] _ [(0, 1), (1, 1), (2, 0), (3, 0), (4, 1), (5, 1), (6, 0), (7, 0), (8, 1)] fc_mixed (by kernel_rfl) (fun _ h => h) ?_
      refine o_fr rfl (po_move rfl) rfl rfl rfl ?_
      refine o_fr rfl (po_move rfl) rfl rfl rfl ?_
      refine o_rd rfl (po_iaddr rfl rfl (by exact fc_slice_35_3_1) (by first | omega | (simp only [List.length_nil, List.length_cons, List.length_append, List.length_replicate, List.length_set, List.length_map, List.length_take, List.length_drop]; omega)) (by first | omega | (simp only [List.length_nil, List.length_cons, List.length_append, List.length_replicate, List.length_set, List.length_map, List.length_take, List.length_drop]; omega))) (by first | exact fun _ h => h | exact ent) rfl rfl rfl ?_
      refine o_rd rfl (po_load_sl rfl (List.getElem?_eq_getElem (by first | omega | (simp only [List.length_nil, List.length_cons, List.length_append, List.length_replicate, List.length_set, List.length_map, List.length_take, List.length_drop]; omega))) (by exact fc_flat_3) (by rfl)) (by first | exact fun _ h => h | exact ent) rfl rfl rfl ?_
      refine o_fr rfl (po_move rfl) rfl rfl rfl ?_
      refine o_fr rfl (po_move rfl) rfl rfl rfl ?_
      refine o_rd rfl (po_iaddr rfl rfl (by exact fc_slice_35_3_1) (by first | omega | (simp only [List.length_nil, List.length_cons, List.length_append, List.length_replicate, List.length_set, List.length_map, List.length_take, List.length_drop]; omega)) (by first | omega | (simp only [List.length_nil, List.length_cons, List.length_append, List.length_replicate, List.length_set, List.length_map, List.length_take, List.length_drop]; omega))) (by first | exact fun _ h => h | exact ent) rfl rfl rfl ?_
      refine o_rd rfl (po_load_sl rfl (List.getElem?_eq_getElem (by first | omega | (simp only [List.length_nil, List.length_cons, List.length_append, List.length_replicate, List.length_set, List.length_map, List.length_take, List.length_drop]; omega))) (by exact fc_flat_3) (by rfl)) (by first | exact fun _ h => h | exact ent) rfl rfl rfl ?_
      refine o_fr rfl (po_ne rfl rfl) rfl rfl rfl ?_
      refine o_nil ?_
      refine at_then_wp ?_
      first | refine r_cond_not rfl ?_ ?_ | refine r_cond_dec rfl ?_ ?_ | refine r_cond rfl ?_ ?_
      · intro heq
        refine r_seq ?_
        refine r_reg ?_
        refine ws (st_po (po_assign rfl) rfl rfl rfl ?_)
        refine s_nil ?_
        refine at_then_wp ?_
        refine r_ret ?_
        refine at_block_ret ?_
        refine at_then_ret ?_
        refine at_then_ret ?_
        refine at_block_ret ?_
        refine at_then_ret ?_
        simp only [Int.toNat_natCast] at heq
        refine at_ret1 rfl (rv_tmp rfl) ⟨_, ⟨by rw [decide_eq_false (fun e => heq (by subst e; rfl))], rfl⟩, ?_⟩
        try dsimp only [List.cons_append, List.nil_append]
        exact ent
      · intro heq
        refine r_skip ?_
        refine at_block_normal ?_
        refine at_then_wp ?_
        refine r_reg ?_
        refine ws (st_po (po_move rfl) rfl rfl rfl ?_)
        refine ws (st_po (po_add' rfl rfl (by omega) (by omega)) rfl rfl rfl ?_)
        refine ws (st_po (po_assign rfl) rfl rfl rfl ?_)
        refine s_nil ?_
        simp only [Int.toNat_natCast] at heq
        exact at_again (k + 1) (And.intro rfl (trivial)) (And.intro rfl (And.intro rfl (trivial))) (⟨by omega, hll, by rw [take_snoc a k (by omega), take_snoc b k (by omega), hne, Classical.not_not.1 heq]⟩) (by omega) ent
    · intro hlt
      refine r_exit ?_
      refine at_then_exit ?_
      refine at_then_exit ?_
      refine at_block_here ?_
      refine at_then_wp ?_
      refine r_seq ?_
      refine r_reg ?_
      refine ws (st_po (po_assign rfl) rfl rfl rfl ?_)
      refine s_nil ?_
      refine at_then_wp ?_
      refine r_ret ?_
      refine at_ret1 rfl (rv_tmp rfl) ⟨_, ⟨by rw [decide_eq_true (by rw [List.take_of_length_le (by omega), List.take_of_length_le (by omega)] at hne; exact hne)], rfl⟩, ?_⟩
      try dsimp only [List.cons_append, List.nil_append]
      exact ent
theorem ref_MayTile (tc : Value) (t : Tile) (hl : t.c.length ≤ 2^30) : Spec PP 53 #[tileV tc t] [Sl eB tc t.c] (fun v M => v = .bool (decide (MayT t)) ∧ M = [Sl eB tc t.c]) := by
  refine spec_of (Go.Proofs.Tryz.func53) rfl rfl rfl (by exact fc_enters_53) ?_
  intro g F
  try dsimp only [List.cons_append, List.nil_append]
  refine r_seq ?_
  refine r_reg ?_
  refine ws (st_xo (xo_box rfl rfl) rfl rfl rfl ?_)
  rintro _ _ ⟨b1, rfl, rfl⟩
  refine ws (st_po (po_assign rfl) rfl rfl rfl ?_)
  refine s_nil ?_
  refine at_then_wp ?_
  refine r_seq ?_
  refine r_seq ?_
  refine r_reg ?_
  refine ws (st_po (po_faddr rfl (by exact fc_field_41_0_0)) rfl rfl rfl ?_)
  refine ws (st_po (po_load rfl (by exact fc_flat_3) (by rfl)) rfl rfl rfl ?_)
  refine ws (st_call (co_fn rfl rfl) (ref_In t.w 1 16) (by infer_instance) rfl rfl rfl ?_)
  rintro v5 _ ⟨rfl, rfl⟩
  try dsimp only [List.cons_append, List.nil_append]
  refine ws (st_po (po_not rfl) rfl rfl rfl ?_)
  by_cases h1 : 1 ≤ t.w ∧ t.w ≤ 16
  · skip
    refine ws (st_po (po_bf (po_move rfl) (by simp only [decide_eq_true h1]; simp)) rfl rfl rfl ?_)
    refine ws (st_po (po_faddr rfl (by exact fc_field_41_1_1)) rfl rfl rfl ?_)
    refine ws (st_po (po_load rfl (by exact fc_flat_3) (by rfl)) rfl rfl rfl ?_)
    refine ws (st_call (co_fn rfl rfl) (ref_In t.h 1 16) (by infer_instance) rfl rfl rfl ?_)
    rintro v10 _ ⟨rfl, rfl⟩
    try dsimp only [List.cons_append, List.nil_append]
    refine ws (st_po (po_not rfl) rfl rfl rfl ?_)
    refine ws (st_po (po_pick_f rfl rfl) rfl rfl rfl ?_)
    by_cases h2 : 1 ≤ t.h ∧ t.h ≤ 16
    · skip
      refine ws (st_po (po_bf (po_move rfl) (by simp only [decide_eq_true h2]; simp)) rfl rfl rfl ?_)
      have hb := mul_1k (a := t.w) (b := t.h) (by omega) (by omega) (by omega) (by omega)
      refine ws (st_po (po_faddr rfl (by exact fc_field_41_2_2)) rfl rfl rfl ?_)
      refine ws (st_po (po_load rfl (by exact fc_flat_22) (by rfl)) rfl rfl rfl ?_)
      refine ws (st_po (po_len rfl (by exact fc_slice_22_5_1)) rfl rfl rfl ?_)
      refine ws (st_po (po_faddr rfl (by exact fc_field_41_0_0)) rfl rfl rfl ?_)
      refine ws (st_po (po_load rfl (by exact fc_flat_3) (by rfl)) rfl rfl rfl ?_)
      refine ws (st_po (po_faddr rfl (by exact fc_field_41_1_1)) rfl rfl rfl ?_)
      refine ws (st_po (po_load rfl (by exact fc_flat_3) (by rfl)) rfl rfl rfl ?_)
      refine ws (st_po (po_mul' rfl rfl (by omega) (by omega)) rfl rfl rfl ?_)
      refine ws (st_po (po_ne rfl rfl) rfl rfl rfl ?_)
      refine ws (st_po (po_pick_f rfl rfl) rfl rfl rfl ?_)
      refine s_nil ?_
      refine at_then_wp ?_
      first | refine r_cond_not rfl ?_ ?_ | refine r_cond_dec rfl ?_ ?_ | refine r_cond rfl ?_ ?_
      · intro h3
        refine r_seq ?_
        refine r_reg ?_
        refine ws (st_po (po_assign rfl) rfl rfl rfl ?_)
        refine s_nil ?_
        refine at_then_wp ?_
        refine r_ret ?_
        refine at_then_ret ?_
        refine at_ret1 rfl (rv_tmp rfl) ⟨_, ⟨by rw [decide_eq_false (fun k => h3 k.2.2.1)], rfl⟩, ?_⟩
        try dsimp only [List.cons_append, List.nil_append]
        exact ent
      · intro h3
        refine r_skip ?_
        refine at_then_wp ?_
        refine r_seq ?_
        refine r_reg ?_
        refine ws (st_po (po_faddr rfl (by exact fc_field_41_2_2)) rfl rfl rfl ?_)
        refine ws (st_po (po_load rfl (by exact fc_flat_22) (by rfl)) rfl rfl rfl ?_)
        refine ws (st_call (co_fn rfl rfl) (ref_full tc t.c hl) (by infer_instance) rfl rfl rfl ?_)
        rintro v26 _ ⟨rfl, rfl⟩
        try dsimp only [List.cons_append, List.nil_append]
        refine ws (st_po (po_assign rfl) rfl rfl rfl ?_)
        refine s_nil ?_
        refine at_then_wp ?_
        refine r_ret ?_
        refine at_ret1 rfl (rv_tmp rfl) ⟨_, ⟨by by_cases h4 : (0 : Int) ∈ t.c; (rw [decide_eq_true h4, decide_eq_false (fun k => k.2.2.2 h4)]; rfl); (rw [decide_eq_false h4, decide_eq_true (show MayT t from ⟨h1, h2, Classical.not_not.1 h3, h4⟩)]; rfl), rfl⟩, ?_⟩
        try dsimp only [List.cons_append, List.nil_append]
        exact ent
    · skip
      refine ws (st_po (po_bt (po_move rfl) (by simp only [decide_eq_false h2]; simp)) rfl rfl rfl ?_)
      refine ws (st_no rfl rfl rfl ?_)
      refine ws (st_no rfl rfl rfl ?_)
      refine ws (st_no rfl rfl rfl ?_)
      refine ws (st_no rfl rfl rfl ?_)
      refine ws (st_no rfl rfl rfl ?_)
      refine ws (st_no rfl rfl rfl ?_)
      refine ws (st_no rfl rfl rfl ?_)
      refine ws (st_no rfl rfl rfl ?_)
      refine ws (st_no rfl rfl rfl ?_)
      refine ws (st_po (po_pick_t rfl rfl) rfl rfl rfl ?_)
      refine s_nil ?_
      refine at_then_wp ?_
      refine r_cond_t rfl rfl ?_
      refine r_seq ?_
      refine r_reg ?_
      refine ws (st_po (po_assign rfl) rfl rfl rfl ?_)
      refine s_nil ?_
      refine at_then_wp ?_
      refine r_ret ?_
      refine at_then_ret ?_
      refine at_ret1 rfl (rv_tmp rfl) ⟨_, ⟨by rw [decide_eq_false (fun k => h2 k.2.1)], rfl⟩, ?_⟩
      try dsimp only [List.cons_append, List.nil_append]
      exact ent
  · skip
    refine ws (st_po (po_bt (po_move rfl) (by simp only [decide_eq_false h1]; simp)) rfl rfl rfl ?_)
    refine ws (st_no rfl rfl rfl ?_)
    refine ws (st_no rfl rfl rfl ?_)
    refine ws (st_no rfl rfl rfl ?_)
    refine ws (st_no rfl rfl rfl ?_)
    refine ws (st_po (po_pick_t rfl rfl) rfl rfl rfl ?_)
    refine ws (st_po (po_move rfl) rfl rfl rfl ?_)
    refine ws (st_no rfl rfl rfl ?_)
    refine ws (st_no rfl rfl rfl ?_)
    refine ws (st_no rfl rfl rfl ?_)
    refine ws (st_no rfl rfl rfl ?_)
    refine ws (st_no rfl rfl rfl ?_)
    refine ws (st_no rfl rfl rfl ?_)
    refine ws (st_no rfl rfl rfl ?_)
    refine ws (st_no rfl rfl rfl ?_)
    refine ws (st_no rfl rfl rfl ?_)
    refine ws (st_po (po_pick_t rfl rfl) rfl rfl rfl ?_)
    refine s_nil ?_
    refine at_then_wp ?_
    refine r_cond_t rfl rfl ?_
    refine r_seq ?_
    refine r_reg ?_
    refine ws (st_po (po_assign rfl) rfl rfl rfl ?_)
    refine s_nil ?_
    refine at_then_wp ?_
    refine r_ret ?_
    refine at_then_ret ?_
    refine at_ret1 rfl (rv_tmp rfl) ⟨_, ⟨by rw [decide_eq_false (fun k => h1 k.1)], rfl⟩, ?_⟩
    try dsimp only [List.cons_append, List.nil_append]
    exact ent
end Hd
end
section
namespace Hd
set_option maxRecDepth 100000
open Go

theorem ref_Near (tc : Value) (t : Tile) (l k : Int) (hl : t.c.length ≤ 2^30) (hm : MayT t) (h0 : 0 ≤ l ∧ l < t.c.length) : Spec PP 54 #[tileV tc t, .int .i64 l, .int .i64 k] [Sl eB tc t.c] (fun v M => v = .int .i64 (stepN t.w t.h l k) ∧ M = [Sl eB tc t.c]) := by
  refine spec_of (Go.Proofs.Tryz.func54) rfl rfl rfl (by exact fc_enters_54) ?_
  intro g F
  try dsimp only [List.cons_append, List.nil_append]
  refine r_seq ?_
  refine r_reg ?_
  refine ws (st_xo (xo_box rfl rfl) rfl rfl rfl ?_)
  rintro _ _ ⟨b3, rfl, rfl⟩
  refine ws (st_po (po_assign rfl) rfl rfl rfl ?_)
  refine s_nil ?_
  refine at_then_wp ?_
  refine r_seq ?_
  refine r_seq ?_
  refine r_reg ?_
  refine ws (st_po (po_loada rfl (by exact fc_agg_41_3) (by rfl)) rfl rfl rfl ?_)
  refine ws (st_call (co_fn rfl rfl) (ref_MayTile tc t hl) (by infer_instance) rfl rfl rfl ?_)
  rintro v8 _ ⟨rfl, rfl⟩
  try dsimp only [List.cons_append, List.nil_append]
  refine ws (st_po (po_not rfl) rfl rfl rfl ?_)
  refine ws (st_po (po_bf (po_move rfl) (by simp [hm])) rfl rfl rfl ?_)
  refine ws (st_po (po_move rfl) rfl rfl rfl ?_)
  refine ws (st_po (po_faddr rfl (by exact fc_field_41_2_2)) rfl rfl rfl ?_)
  refine ws (st_po (po_load rfl (by exact fc_flat_22) (by rfl)) rfl rfl rfl ?_)
  refine ws (st_po (po_len rfl (by exact fc_slice_22_5_1)) rfl rfl rfl ?_)
  refine ws (st_po (po_sub' rfl rfl (by omega) (by omega)) rfl rfl rfl ?_)
  refine ws (st_call (co_fn rfl rfl) (ref_In l 0 (t.c.length - 1)) (by infer_instance) rfl rfl rfl ?_)
  rintro v16 _ ⟨rfl, rfl⟩
  try dsimp only [List.cons_append, List.nil_append]
  refine ws (st_po (po_not rfl) rfl rfl rfl ?_)
  refine ws (st_po (po_pick_f rfl rfl) rfl rfl rfl ?_)
  refine s_nil ?_
  refine at_then_wp ?_
  first | refine r_dec_f rfl (by omega) ?_ | refine r_nd_f rfl (by omega) ?_ | refine r_cond_f rfl (by omega) ?_
  refine r_skip ?_
  refine at_then_wp ?_
  refine r_seq ?_
  refine r_reg ?_
  refine ws (st_po (po_faddr rfl (by exact fc_field_41_0_0)) rfl rfl rfl ?_)
  refine ws (st_po (po_load rfl (by exact fc_flat_3) (by rfl)) rfl rfl rfl ?_)
  refine ws (st_po (po_faddr rfl (by exact fc_field_41_1_1)) rfl rfl rfl ?_)
  refine ws (st_po (po_load rfl (by exact fc_flat_3) (by rfl)) rfl rfl rfl ?_)
  refine ws (st_po (po_move rfl) rfl rfl rfl ?_)
  refine ws (st_po (po_move rfl) rfl rfl rfl ?_)
  refine ws (st_call (co_fn rfl rfl) (ref_Step t.w t.h l k) (by infer_instance) rfl rfl rfl ?_)
  rintro v25 _ ⟨rfl, rfl⟩
  try dsimp only [List.cons_append, List.nil_append]
  refine ws (st_po (po_assign rfl) rfl rfl rfl ?_)
  refine s_nil ?_
  refine at_then_wp ?_
  refine r_ret ?_
  refine at_ret1 rfl (rv_tmp rfl) ⟨_, ⟨rfl, rfl⟩, ?_⟩
  try dsimp only [List.cons_append, List.nil_append]
  exact ent

theorem seed_ext {a b : List Seed} {i j : Nat} {hi : i < a.length} {hj : j < b.length} (h : a[i].cell = b[j].cell ∧ a[i].side = b[j].side ∧ a[i].key = b[j].key) : a[i] = b[j] := by
  generalize a[i] = x at *
  generalize b[j] = y at *
  cases x; cases y; simp_all
theorem ref_SameSeeds (av bv : Value) (a b : List Seed) (hl : a.length ≤ 2^30) : Spec PP 15 #[av, bv] [Sl eS av a, Sl eS bv b] (fun v M => v = .bool (decide (a = b)) ∧ M = [Sl eS av a, Sl eS bv b]) := by
  refine spec_of (Go.Proofs.Tryz.func15) rfl rfl rfl (by exact fc_enters_15) ?_
  intro g F
  try dsimp only [List.cons_append, List.nil_append]
  refine r_seq ?_
  refine r_reg ?_
  refine ws (st_po (po_assign rfl) rfl rfl rfl ?_)
  refine s_nil ?_
  refine at_then_wp ?_
  refine r_seq ?_
  refine r_seq ?_
  refine r_reg ?_
  refine ws (st_po (po_move rfl) rfl rfl rfl ?_)
  refine ws (st_po (po_len rfl (by exact fc_slice_32_45_3)) rfl rfl rfl ?_)
  refine ws (st_po (po_move rfl) rfl rfl rfl ?_)
  refine ws (st_po (po_len rfl (by exact fc_slice_32_45_3)) rfl rfl rfl ?_)
  refine ws (st_po (po_ne rfl rfl) rfl rfl rfl ?_)
  refine s_nil ?_
  refine at_then_wp ?_
  first | refine r_cond_not rfl ?_ ?_ | refine r_cond_dec rfl ?_ ?_ | refine r_cond rfl ?_ ?_
  · intro h0
    refine r_seq ?_
    refine r_reg ?_
    refine ws (st_po (po_assign rfl) rfl rfl rfl ?_)
    refine s_nil ?_
    refine at_then_wp ?_
    refine r_ret ?_
    refine at_then_ret ?_
    refine at_ret1 rfl (rv_tmp rfl) ⟨_, ⟨by rw [decide_eq_false (fun e => h0 (by rw [e]))], rfl⟩, ?_⟩
    try dsimp only [List.cons_append, List.nil_append]
    exact ent
  · intro h0
    refine r_skip ?_
    refine at_then_wp ?_
    refine r_seq ?_
    refine r_seq ?_
    refine r_reg ?_
    refine ws (st_po (po_assign rfl) rfl rfl rfl ?_)
    refine s_nil ?_
    refine at_then_wp ?_
    refine r_block ?_
    refine r_loop (S := Nat) (fun k => [(5, .int .i64 k)]) [(0, _), (1, _)] (fun k => [Sl eS av a, Sl eS bv b, F]) (fun k => k ≤ a.length ∧ a.length = b.length ∧ a.take k = b.take k) (fun k => a.length - k) (0) (And.intro rfl (And.intro rfl (trivial))) (And.intro rfl (trivial)) (⟨by omega, by omega, by simp⟩) ent ?_
    rintro k ⟨hk, hll, hne⟩
    try dsimp only [List.cons_append, List.nil_append]
    refine r_seq ?_
    refine r_seq ?_
    refine r_reg ?_
    refine ws (st_po (po_move rfl) rfl rfl rfl ?_)
    refine ws (st_po (po_move rfl) rfl rfl rfl ?_)
    refine ws (st_po (po_len rfl (by exact fc_slice_32_45_3)) rfl rfl rfl ?_)
    refine ws (st_po (po_lt rfl rfl) rfl rfl rfl ?_)
    refine s_nil ?_
    refine at_then_wp ?_
    first | refine r_cond_not rfl ?_ ?_ | refine r_cond_dec rfl ?_ ?_ | refine r_cond rfl ?_ ?_
    · intro hlt
      refine r_skip ?_
      refine at_then_wp ?_
      refine r_seq ?_
      refine r_block ?_
      refine r_seq ?_
      refine r_ord [] _ [(0, 1), (1, 1), (2, 0), (3, 0), (4, 1), (5, 1), (6, 0), (7, 0), (8, 1)] fc_mixed (by kernel_rfl) (fun _ h => h) ?_
      refine o_fr rfl (po_move rfl) rfl rfl rfl ?_
      refine o_fr rfl (po_move rfl) rfl rfl rfl ?_
      refine o_rd rfl (po_iaddr rfl rfl (by exact fc_slice_32_45_3) (by first | omega | (simp only [List.length_nil, List.length_cons, List.length_append, List.length_replicate, List.length_set, List.length_map, List.length_take, List.length_drop]; omega)) (by first | omega | (simp only [List.length_nil, List.length_cons, List.length_append, List.length_replicate, List.length_set, List.length_map, List.length_take, List.length_drop]; omega))) (by first | exact fun _ h => h | exact ent) rfl rfl rfl ?_
      refine o_rd rfl (ld_eS rfl (List.getElem?_eq_getElem (by first | omega | (simp only [List.length_nil, List.length_cons, List.length_append, List.length_replicate, List.length_set, List.length_map, List.length_take, List.length_drop]; omega))) (by exact fc_agg_45_3)) (by first | exact fun _ h => h | exact ent) rfl rfl rfl ?_
      refine o_fr rfl (po_move rfl) rfl rfl rfl ?_
      refine o_fr rfl (po_move rfl) rfl rfl rfl ?_
      refine o_rd rfl (po_iaddr rfl rfl (by exact fc_slice_32_45_3) (by first | omega | (simp only [List.length_nil, List.length_cons, List.length_append, List.length_replicate, List.length_set, List.length_map, List.length_take, List.length_drop]; omega)) (by first | omega | (simp only [List.length_nil, List.length_cons, List.length_append, List.length_replicate, List.length_set, List.length_map, List.length_take, List.length_drop]; omega))) (by first | exact fun _ h => h | exact ent) rfl rfl rfl ?_
      refine o_rd rfl (ld_eS rfl (List.getElem?_eq_getElem (by first | omega | (simp only [List.length_nil, List.length_cons, List.length_append, List.length_replicate, List.length_set, List.length_map, List.length_take, List.length_drop]; omega))) (by exact fc_agg_45_3)) (by first | exact fun _ h => h | exact ent) rfl rfl rfl ?_
      refine o_fr rfl (po_st3ne rfl rfl (by exact fc_st3_45)) rfl rfl rfl ?_
      refine o_nil ?_
      refine at_then_wp ?_
      first | refine r_cond_not rfl ?_ ?_ | refine r_cond_dec rfl ?_ ?_ | refine r_cond rfl ?_ ?_
      · intro heq
        refine r_seq ?_
        refine r_reg ?_
        refine ws (st_po (po_assign rfl) rfl rfl rfl ?_)
        refine s_nil ?_
        refine at_then_wp ?_
        refine r_ret ?_
        refine at_block_ret ?_
        refine at_then_ret ?_
        refine at_then_ret ?_
        refine at_block_ret ?_
        refine at_then_ret ?_
        simp only [Int.toNat_natCast] at heq
        refine at_ret1 rfl (rv_tmp rfl) ⟨_, ⟨by rw [decide_eq_false (fun e => heq (by subst e; exact ⟨rfl, rfl, rfl⟩))], rfl⟩, ?_⟩
        try dsimp only [List.cons_append, List.nil_append]
        exact ent
      · intro heq
        refine r_skip ?_
        refine at_block_normal ?_
        refine at_then_wp ?_
        refine r_reg ?_
        refine ws (st_po (po_move rfl) rfl rfl rfl ?_)
        refine ws (st_po (po_add' rfl rfl (by omega) (by omega)) rfl rfl rfl ?_)
        refine ws (st_po (po_assign rfl) rfl rfl rfl ?_)
        refine s_nil ?_
        simp only [Int.toNat_natCast] at heq
        exact at_again (k + 1) (And.intro rfl (trivial)) (And.intro rfl (And.intro rfl (trivial))) (⟨by omega, hll, by rw [take_snoc a k (by omega), take_snoc b k (by omega), hne, seed_ext heq]⟩) (by omega) ent
    · intro hlt
      refine r_exit ?_
      refine at_then_exit ?_
      refine at_then_exit ?_
      refine at_block_here ?_
      refine at_then_wp ?_
      refine r_seq ?_
      refine r_reg ?_
      refine ws (st_po (po_assign rfl) rfl rfl rfl ?_)
      refine s_nil ?_
      refine at_then_wp ?_
      refine r_ret ?_
      refine at_ret1 rfl (rv_tmp rfl) ⟨_, ⟨by rw [decide_eq_true (by rw [List.take_of_length_le (by omega), List.take_of_length_le (by omega)] at hne; exact hne)], rfl⟩, ?_⟩
      try dsimp only [List.cons_append, List.nil_append]
      exact ent
end Hd
end
section
namespace Hd
open Go Go.RowKit
/-! ## what came from outside: it is read, and stays -/
/-- v can be read as the list xs -/
def Reads {α : Type} (E : Enc α) (v : Value) (xs : List α) (h : Frag) : Prop :=
  (v = .slice none 0 0 ∧ xs = []) ∨ ∃ b off cap, v = .slice (some ⟨b, off, none⟩) xs.length cap ∧ xs.length ≤ cap ∧ ∀ j u, (xs.flatMap E.f)[j]? = some u → ∃ c T fr, h b = some (.cells c T fr) ∧ c[off + j]? = some u
/-- all that was there -/
def Old (h0 : Frag) : HP := fun h => ∀ b o, h0 b = some o → h b = some o
instance Rd.next {α : Type} (A B : HP) (L : List HP) (v : Value) (E : Enc α) (xs : List α) [m : Rd (B :: L) v α E xs] : Rd (A :: B :: L) v α E xs := ⟨fun h hs => m.out h (sat_drop hs)⟩
theorem rd_only {α : Type} {A : HP} {L : List HP} {v : Value} {E : Enc α} {xs : List α} (m : Rd [A] v α E xs) : Rd (A :: L) v α E xs := ⟨fun h hs => by
  obtain ⟨h1, h2, j, ha, hl⟩ := hs
  exact m.out h ⟨h1, h2, j, ha, trivial⟩⟩
instance (priority := low) Rd.only {α : Type} (A B : HP) (L : List HP) (v : Value) (E : Enc α) (xs : List α) [m : Rd [A] v α E xs] : Rd (A :: B :: L) v α E xs := rd_only m
/-- a slice that came from outside -/
def Ins {α : Type} (h0 : Frag) (E : Enc α) (v : Value) (xs : List α) : HP := fun h => Old h0 h ∧ Reads E v xs h0
theorem Ins.rd {α : Type} {h0 : Frag} {E : Enc α} {v : Value} {xs : List α} : Rd [Ins h0 E v xs] v α E xs := ⟨fun h hs => by
  obtain ⟨h1, h2, j, ⟨hk, hr⟩, -⟩ := hs
  rcases hr with a | ⟨b, off, cap, e1, e2, e3⟩
  · exact .inl a
  · refine .inr ⟨b, off, cap, e1, e2, fun i u hu => ?_⟩
    obtain ⟨c, T, fr, e4, e5⟩ := e3 i u hu
    exact ⟨c, T, fr, j.sub_left b _ (hk b _ e4), e5⟩⟩
theorem Fit.below {g : Gl} {A : HP} {L : List HP} {w w' : World} (hg : g = ⟨w.os, w.tape, w.output, w.drawn⟩) (hA : ∀ h, A h → Old (frag w) h) (f : Fit g (A :: L) w') : Below w.heap.size w w' := by
  subst hg
  obtain ⟨h1, h2, j, ha, -⟩ := f.sat
  have hk : ∀ b o, w.heap[b]? = some o → w'.heap[b]? = some o := fun b o e => j.sub_left b o (hA _ ha b o e)
  refine ⟨f.os, f.tape, f.output, ?_, fun k hlt => ?_⟩
  · rcases Nat.lt_or_ge w'.heap.size w.heap.size with hlt | hge
    · have := hk w'.heap.size w.heap[w'.heap.size] (by simp [hlt])
      simp at this
    · exact hge
  · rw [hk k w.heap[k] (by simp [hlt])]; simp [hlt]
end Hd
end
section
namespace Hd
set_option maxRecDepth 100000
open Go

/-- a map that was made -/
structure MadeOk (w h : Int) (c : List Int) : Prop where
  wb : 1 ≤ w ∧ w ≤ 40
  hb : 1 ≤ h ∧ h ≤ 40
  len : (c.length : Int) = w * h
  bt : ∀ x ∈ c, 1 ≤ x ∧ x ≤ 255
theorem MadeOk.may {w h : Int} {c : List Int} (k : MadeOk w h c) : MayM w h c := ⟨⟨⟨k.wb.1, by have := k.wb.2; omega⟩, ⟨k.hb.1, by have := k.hb.2; omega⟩⟩, k.len, fun h0 => by have := k.bt 0 h0; omega⟩
theorem costB_rng {x : Int} (h0 : 0 ≤ x) (h1 : x ≤ 255) : 1 ≤ costB x ∧ costB x ≤ 255 := by
  unfold costB
  split
  · omega
  · split <;> omega
theorem ref_Made (K : HP) (w h : Int) (cv : Value) (c : List Int) [Rd [K] cv Int eB c] (hc : ∀ x ∈ c, 0 ≤ x ∧ x ≤ 255) : Spec PP 7 #[.int .i64 w, .int .i64 h, cv] [K]
    (fun v M => ∃ w' h' mv C, v = mapV w' h' mv ∧ M = [K, Sl eB mv C] ∧ MadeOk w' h' C) := by
  have hw : 1 ≤ 1 + w % (40 - 1 + 1) ∧ 1 + w % (40 - 1 + 1) ≤ 40 := by omega
  have hh : 1 ≤ 1 + h % (40 - 1 + 1) ∧ 1 + h % (40 - 1 + 1) ≤ 40 := by omega
  generalize hw' : 1 + w % (40 - 1 + 1) = W at hw
  generalize hh' : 1 + h % (40 - 1 + 1) = H at hh
  have hm := mul_1k (a := W) (b := H) (by omega) (by omega) (by omega) (by omega)
  refine spec_of (Go.Proofs.Tryz.func7) rfl rfl rfl (by exact fc_enters_7) ?_
  intro g F
  try dsimp only [List.cons_append, List.nil_append, GridS.l, GridS.p, MeshS.l, MeshS.lF, MeshS.p, FinderS.l, FinderS.p, FinderS.lF, RouteS.l, RouteS.p, GridS.lT, RouteS.lT]
  refine r_seq ?_
  refine r_reg ?_
  refine ws (st_xo (xo_alloc (by exact fc_zero_24)) rfl rfl rfl ?_)
  rintro _ _ ⟨b6, rfl, rfl⟩
  refine s_nil ?_
  refine at_then_wp ?_
  refine r_seq ?_
  refine r_reg ?_
  refine ws (st_po (po_move rfl) rfl rfl rfl ?_)
  refine ws (st_call (co_fn rfl rfl) (ref_Within w 1 40 (by omega) (by omega) (by omega)) (by infer_instance) rfl rfl rfl ?_)
  rintro v12 _ ⟨rfl, rfl⟩
  try dsimp only [List.cons_append, List.nil_append, GridS.l, GridS.p, MeshS.l, MeshS.lF, MeshS.p, FinderS.l, FinderS.p, FinderS.lF, RouteS.l, RouteS.p, GridS.lT, RouteS.lT]
  refine ws (st_po (po_move rfl) rfl rfl rfl ?_)
  refine ws (st_call (co_fn rfl rfl) (ref_Within h 1 40 (by omega) (by omega) (by omega)) (by infer_instance) rfl rfl rfl ?_)
  rintro v14 _ ⟨rfl, rfl⟩
  try dsimp only [List.cons_append, List.nil_append, GridS.l, GridS.p, MeshS.l, MeshS.lF, MeshS.p, FinderS.l, FinderS.p, FinderS.lF, RouteS.l, RouteS.p, GridS.lT, RouteS.lT]
  rw [hw', hh']
  refine ws (st_po (po_build1 rfl (by exact fc_zero_24) (by exact fc_places_24_0_1) (by exact fc_info_24) rfl) rfl rfl rfl ?_)
  refine ws (st_xo (xo_alloc (by exact fc_zero_24)) rfl rfl rfl ?_)
  rintro _ _ ⟨b7, rfl, rfl⟩
  refine ws (st_so (so_storea1 rfl rfl (by exact fc_agg_24_3) rfl rfl) rfl rfl ?_)
  refine s_nil ?_
  refine at_then_wp ?_
  refine r_seq ?_
  refine r_seq ?_
  refine r_reg ?_
  refine ws (st_po (po_assign rfl) rfl rfl rfl ?_)
  refine s_nil ?_
  refine at_then_wp ?_
  refine r_block ?_
  refine r_loop (S := Nat × Value × List Int) (fun ⟨i, mv, C⟩ => [(8, .int .i64 i)]) [(2, _), (6, _), (7, _)] (fun ⟨i, mv, C⟩ => [Blk b7 24 [.int .i64 W, .int .i64 H, mv], Sl eB mv C, Blk b6 24 [.int .i64 0, .int .i64 0, .slice none 0 0], K, F]) (fun ⟨i, mv, C⟩ => (i : Int) ≤ W * H ∧ C.length = i ∧ ∀ x ∈ C, 1 ≤ x ∧ x ≤ 255) (fun ⟨i, mv, C⟩ => (W * H).toNat - i) ((0, .slice none 0 0, [])) (And.intro rfl (And.intro rfl (And.intro rfl (trivial)))) (And.intro rfl (trivial)) (⟨by omega, rfl, by simp⟩) ent ?_
  rintro ⟨i, mv, C⟩ ⟨hi, hCl, hCb⟩
  try dsimp only [List.cons_append, List.nil_append, GridS.l, GridS.p, MeshS.l, MeshS.lF, MeshS.p, FinderS.l, FinderS.p, FinderS.lF, RouteS.l, RouteS.p, GridS.lT, RouteS.lT]
  refine r_seq ?_
  refine r_seq ?_
  refine r_reg ?_
  refine ws (st_po (po_move rfl) rfl rfl rfl ?_)
  refine ws (st_po (po_faddr rfl (by exact fc_field_24_0_0)) rfl rfl rfl ?_)
  refine ws (st_po (po_load rfl (by exact fc_flat_3) (by rfl)) rfl rfl rfl ?_)
  refine ws (st_po (po_faddr rfl (by exact fc_field_24_1_1)) rfl rfl rfl ?_)
  refine ws (st_po (po_load rfl (by exact fc_flat_3) (by rfl)) rfl rfl rfl ?_)
  refine ws (st_po (po_mul' rfl rfl (by omega) (by omega)) rfl rfl rfl ?_)
  refine ws (st_po (po_lt rfl rfl) rfl rfl rfl ?_)
  refine s_nil ?_
  refine at_then_wp ?_
  first | refine r_cond_not rfl ?_ ?_ | refine r_cond_dec rfl ?_ ?_ | refine r_cond rfl ?_ ?_
  · intro hlt
    have hq : 0 ≤ (i : Int) / c.length ∧ (i : Int) / c.length ≤ i := ⟨Int.ediv_nonneg (by omega) (by omega), Int.ediv_le_self _ (by omega)⟩
    refine r_skip ?_
    refine at_then_wp ?_
    refine r_seq ?_
    refine r_block ?_
    refine r_seq ?_
    refine r_reg ?_
    refine ws (st_po (po_assign rfl) rfl rfl rfl ?_)
    refine s_nil ?_
    refine at_then_wp ?_
    refine r_joink (S := Int) (fun x => [(9, .int .u8 x)]) [(2, _), (6, _), (7, _), (8, _)] (fun x => [Blk b7 24 [.int .i64 W, .int .i64 H, mv], Sl eB mv C, Blk b6 24 [.int .i64 0, .int .i64 0, .slice none 0 0], K, F]) (fun x => 0 ≤ x ∧ x ≤ 255) (And.intro rfl (And.intro rfl (And.intro rfl (And.intro rfl (trivial))))) ?_ ?_
    · skip
      refine r_seq ?_
      refine r_reg ?_
      refine ws (st_po (po_move rfl) rfl rfl rfl ?_)
      refine ws (st_po (po_len rfl (by exact fc_slice_22_5_1)) rfl rfl rfl ?_)
      refine ws (st_po (po_assign rfl) rfl rfl rfl ?_)
      refine s_nil ?_
      refine at_then_wp ?_
      refine r_seq ?_
      refine r_reg ?_
      refine ws (st_po (po_move rfl) rfl rfl rfl ?_)
      refine ws (st_po (po_gt rfl rfl) rfl rfl rfl ?_)
      refine s_nil ?_
      refine at_then_wp ?_
      first | refine r_cond_not rfl ?_ ?_ | refine r_cond_dec rfl ?_ ?_ | refine r_cond rfl ?_ ?_
      · intro hn
        have hr : 0 ≤ ((i : Int) + (i : Int) / c.length * 5) % c.length ∧ ((i : Int) + (i : Int) / c.length * 5) % c.length < c.length := ⟨Int.emod_nonneg _ (by omega), Int.emod_lt_of_pos _ (by omega)⟩
        refine r_reg ?_
        refine ws (st_po (po_move rfl) rfl rfl rfl ?_)
        refine ws (st_po (po_move rfl) rfl rfl rfl ?_)
        refine ws (st_po (po_move rfl) rfl rfl rfl ?_)
        refine ws (st_po (po_move rfl) rfl rfl rfl ?_)
        refine ws (st_po (po_quo' rfl rfl (by omega) (by omega) (by omega)) rfl rfl rfl ?_)
        refine ws (st_po (po_mul' rfl rfl (by omega) (by omega)) rfl rfl rfl ?_)
        refine ws (st_po (po_add' rfl rfl (by omega) (by omega)) rfl rfl rfl ?_)
        refine ws (st_po (po_move rfl) rfl rfl rfl ?_)
        refine ws (st_po (po_rem' rfl rfl (by omega) (by omega)) rfl rfl rfl ?_)
        refine ws (st_po (po_iaddr rfl rfl (by exact fc_slice_22_5_1) (by first | omega | (simp only [List.length_nil, List.length_cons, List.length_append, List.length_replicate, List.length_set, List.length_map, List.length_take, List.length_drop]; omega)) (by first | omega | (simp only [List.length_nil, List.length_cons, List.length_append, List.length_replicate, List.length_set, List.length_map, List.length_take, List.length_drop]; omega))) rfl rfl rfl ?_)
        refine ws (st_po (po_load_sl rfl (List.getElem?_eq_getElem (by first | omega | (simp only [List.length_nil, List.length_cons, List.length_append, List.length_replicate, List.length_set, List.length_map, List.length_take, List.length_drop]; omega))) (by exact fc_flat_5) (by rfl)) rfl rfl rfl ?_)
        refine ws (st_po (po_assign rfl) rfl rfl rfl ?_)
        refine s_nil ?_
        have hxm := hc _ (List.getElem_mem (show (((i : Int) + (i : Int) / c.length * 5) % c.length).toNat < c.length by omega))
        exact at_join ((c[(((i : Int) + (i : Int) / c.length * 5) % c.length).toNat]'(by omega))) (And.intro rfl (trivial)) (And.intro rfl (And.intro rfl (And.intro rfl (And.intro rfl (trivial))))) (hxm) ent
      · intro hn
        refine r_skip ?_
        exact at_join (1) (And.intro rfl (trivial)) (And.intro rfl (And.intro rfl (And.intro rfl (And.intro rfl (trivial))))) (by omega) ent
    · rintro x hx
      try dsimp only [List.cons_append, List.nil_append, GridS.l, GridS.p, MeshS.l, MeshS.lF, MeshS.p, FinderS.l, FinderS.p, FinderS.lF, RouteS.l, RouteS.p, GridS.lT, RouteS.lT]
      refine r_ord [5, 7] _ [(0, 1), (1, 0), (2, 1), (3, 2), (4, 2), (5, 2), (6, 1), (7, 2)] fc_mixed (by kernel_rfl) (fun _ h => h) ?_
      refine o_fr rfl (po_faddr rfl (by exact fc_field_24_2_2)) rfl rfl rfl ?_
      refine o_rd rfl (po_load rfl (by exact fc_flat_22) (by rfl)) (by first | exact fun _ h => h | exact ent) rfl rfl rfl ?_
      refine o_fr rfl (po_move rfl) rfl rfl rfl ?_
      refine o_st rfl (st_call (co_fn rfl rfl) (ref_Cost x hx.1 hx.2) (by infer_instance) rfl rfl rfl ?_)
      rintro v43 _ ⟨rfl, rfl⟩
      try dsimp only [List.cons_append, List.nil_append, GridS.l, GridS.p, MeshS.l, MeshS.lF, MeshS.p, FinderS.l, FinderS.p, FinderS.lF, RouteS.l, RouteS.p, GridS.lT, RouteS.lT]
      refine ⟨fun _ => (by first | exact fun _ h => h | exact ent), ?_⟩
      have hcb := costB_rng hx.1 hx.2
      refine o_st rfl (st_xo (xo_bslice eB [_] rfl (by exact fc_slice_22_5_1) (by exact fc_elem_5_1_1) ⟨rfl, rfl, trivial⟩ rfl (by decide)) rfl rfl rfl ?_)
      rintro v44 _ rfl
      refine ⟨fun _ => (by first | exact fun _ h => h | exact ent), ?_⟩
      refine o_st rfl (st_xo (xo_append rfl rfl (by exact fc_slice_22_5_1) (by exact fc_slice_22_5_1) (by exact fc_elem_5_1_1) (by first | omega | (simp only [List.length_nil, List.length_cons, List.length_append, List.length_replicate, List.length_set, List.length_map, List.length_take, List.length_drop]; omega)) (by first | omega | (simp only [List.length_nil, List.length_cons, List.length_append, List.length_replicate, List.length_set, List.length_map, List.length_take, List.length_drop]; omega))) rfl rfl rfl ?_)
      rintro v45 _ rfl
      refine ⟨fun h => late_no h (by kernel_rfl), ?_⟩
      refine o_fr rfl (po_faddr rfl (by exact fc_field_24_2_2)) rfl rfl rfl ?_
      refine o_st rfl (st_so (so_store1 rfl rfl (by exact fc_flat_22) rfl) rfl rfl ?_)
      refine ⟨fun h => late_no h (by kernel_rfl), ?_⟩
      refine o_nil ?_
      refine at_block_normal ?_
      refine at_then_wp ?_
      refine r_reg ?_
      refine ws (st_po (po_move rfl) rfl rfl rfl ?_)
      refine ws (st_po (po_add' rfl rfl (by omega) (by omega)) rfl rfl rfl ?_)
      refine ws (st_po (po_assign rfl) rfl rfl rfl ?_)
      refine s_nil ?_
      exact at_again ((i + 1, v45, C ++ [costB x])) (And.intro rfl (trivial)) (And.intro rfl (And.intro rfl (And.intro rfl (trivial)))) (⟨by omega, by simp [hCl], fun y hy => by rcases List.mem_append.1 hy with h | h; exact hCb y h; (rw [List.mem_singleton] at h; rw [h]; exact hcb)⟩) (by omega) ent
  · intro hlt
    refine r_exit ?_
    refine at_then_exit ?_
    refine at_then_exit ?_
    refine at_block_here ?_
    refine at_then_wp ?_
    refine r_seq ?_
    refine r_reg ?_
    refine ws (st_po (po_loada rfl (by exact fc_agg_24_3) (by rfl)) rfl rfl rfl ?_)
    refine ws (st_so (so_storea1 rfl rfl (by exact fc_agg_24_3) rfl rfl) rfl rfl ?_)
    refine s_nil ?_
    refine at_then_wp ?_
    refine r_ret ?_
    refine at_ret1 rfl (rv_cella rfl (by exact fc_agg_24_3) (by rfl)) ⟨_, ⟨W, H, mv, C, rfl, rfl, ⟨hw, hh, by omega, hCb⟩⟩, ?_⟩
    try dsimp only [List.cons_append, List.nil_append, GridS.l, GridS.p, MeshS.l, MeshS.lF, MeshS.p, FinderS.l, FinderS.p, FinderS.lF, RouteS.l, RouteS.p, GridS.lT, RouteS.lT]
    exact ent
theorem grid_ok {s : GridS} {w h : Int} {c : List Int} {ep : Int} (hm : MadeOk w h c) (h1 : s.w = w) (h2 : s.h = h) (h3 : s.c = c) (h4 : s.ep = ep) (h5 : 0 ≤ ep ∧ ep ≤ 4611686018427387904) (h6 : s.vs = List.replicate ((secsN w h).1 * (secsN w h).2).toNat ep) : GridOk s := by
  have hM := hm.may
  refine ⟨by rw [h1, h2]; exact hM.1, by rw [h1, h2, h3]; exact hM.2.1, by rw [h3]; exact hm.bt, ?_, by omega, by omega⟩
  have e : secsN w h = (acrN w, acrN h) := by rw [secsN, if_pos hM.1]
  have := secs_mul w h
  rw [e] at this h6
  dsimp only at this h6
  rw [h6, List.length_replicate, h1, h2]
  omega
theorem law16_found (w h : Int) (mv : Value) (C : List Int) (hm : MadeOk w h C) (t : Int) (ht : IsC w h t) : Spec PP 9 #[mapV w h mv, .int .i64 t] [Sl eB mv C]
    (fun v M => ∃ (f : FinderS) (r : RouteS), v = .tuple #[f.m.g.p, r.p] ∧ M = Sl eB mv C :: (f.l r.p ++ r.l) ∧ GridOk f.m.g ∧ f.m.g.w = w ∧ f.m.g.h = h ∧ f.m.g.c = C ∧ f.m.g.ep = 1 ∧ r.ep = 1 ∧ r.goal = t ∧ RouteOk f.m.g r ∧ ∀ v ∈ f.m.g.vs, 1 ≤ v ∧ v ≤ 1) := by
  refine spec_of (Go.Proofs.Tryz.func9) rfl rfl rfl (by exact fc_enters_9) ?_
  intro g F
  try dsimp only [List.cons_append, List.nil_append, GridS.l, GridS.p, MeshS.l, MeshS.lF, MeshS.p, FinderS.l, FinderS.p, FinderS.lF, RouteS.l, RouteS.p, GridS.lT, RouteS.lT]
  refine r_seq ?_
  refine r_reg ?_
  refine ws (st_xo (xo_box rfl rfl) rfl rfl rfl ?_)
  rintro _ _ ⟨b2, rfl, rfl⟩
  refine ws (st_po (po_assign rfl) rfl rfl rfl ?_)
  refine ws (st_po (po_assign rfl) rfl rfl rfl ?_)
  refine s_nil ?_
  refine at_then_wp ?_
  refine r_seq ?_
  refine r_reg ?_
  refine ws (st_po (po_loada rfl (by exact fc_agg_24_3) (by rfl)) rfl rfl rfl ?_)
  refine ws (st_call (co_fn rfl rfl) (grid_New w h 0 mv C hm.may (by omega) (by omega)) (by infer_instance) rfl rfl rfl ?_)
  rintro v10 _ ⟨s, rfl, rfl, hw, hh, hc, hep, hvs⟩
  try dsimp only [List.cons_append, List.nil_append, GridS.l, GridS.p, MeshS.l, MeshS.lF, MeshS.p, FinderS.l, FinderS.p, FinderS.lF, RouteS.l, RouteS.p, GridS.lT, RouteS.lT]
  have ok : GridOk s := grid_ok hm hw hh hc hep (by omega) hvs
  have hv1 : ∀ v ∈ s.vs, 1 ≤ v ∧ v ≤ 1 := fun v hv => by rw [hvs] at hv; have := List.eq_of_mem_replicate hv; omega
  refine ws (st_po (po_assign rfl) rfl rfl rfl ?_)
  refine s_nil ?_
  refine at_then_wp ?_
  refine r_seq ?_
  refine r_reg ?_
  refine ws (st_po (po_move rfl) rfl rfl rfl ?_)
  refine ws (st_call (co_fn rfl rfl) (mesh_New s ok (fun v hv => by have := hv1 v hv; omega)) (by infer_instance) rfl rfl rfl ?_)
  rintro v12 _ ⟨m, rfl, rfl, rfl, okm⟩
  try dsimp only [List.cons_append, List.nil_append, GridS.l, GridS.p, MeshS.l, MeshS.lF, MeshS.p, FinderS.l, FinderS.p, FinderS.lF, RouteS.l, RouteS.p, GridS.lT, RouteS.lT]
  refine ws (st_po (po_move rfl) rfl rfl rfl ?_)
  refine ws (st_call (co_fn rfl rfl) (route_New m) (by infer_instance) rfl rfl rfl ?_)
  rintro v14 _ ⟨f, rfl, rfl, rfl, hfc⟩
  try dsimp only [List.cons_append, List.nil_append, GridS.l, GridS.p, MeshS.l, MeshS.lF, MeshS.p, FinderS.l, FinderS.p, FinderS.lF, RouteS.l, RouteS.p, GridS.lT, RouteS.lT]
  refine ws (st_po (po_assign rfl) rfl rfl rfl ?_)
  refine s_nil ?_
  refine at_then_wp ?_
  refine r_seq ?_
  refine r_seq ?_
  refine r_reg ?_
  refine ws (st_po (po_move rfl) rfl rfl rfl ?_)
  refine ws (st_po (po_peq rfl rfl (by exact fc_ptr_27)) rfl rfl rfl ?_)
  refine ws (st_po (po_bf (po_move rfl) (rfl)) rfl rfl rfl ?_)
  refine ws (st_po (po_move rfl) rfl rfl rfl ?_)
  refine ws (st_po (po_peq rfl rfl (by exact fc_ptr_61)) rfl rfl rfl ?_)
  refine ws (st_po (po_pick_f rfl rfl) rfl rfl rfl ?_)
  refine s_nil ?_
  refine at_then_wp ?_
  first | refine r_dec_f rfl (by simp) ?_ | refine r_nd_f rfl (by simp) ?_ | refine r_cond_f rfl (by simp) ?_
  refine r_skip ?_
  refine at_then_wp ?_
  refine r_seq ?_
  refine r_reg ?_
  refine ws (st_po (po_move rfl) rfl rfl rfl ?_)
  refine ws (st_po (po_move rfl) rfl rfl rfl ?_)
  refine ws (st_call (co_fn rfl rfl) (route_Find1 f okm t (by rw [hw, hh]; exact ht) (by omega)) (by infer_instance) rfl rfl rfl ?_)
  rintro v23 _ ⟨f', r, rfl, rfl, hg, he, hro, okm', hgr, -⟩
  try dsimp only [List.cons_append, List.nil_append, GridS.l, GridS.p, MeshS.l, MeshS.lF, MeshS.p, FinderS.l, FinderS.p, FinderS.lF, RouteS.l, RouteS.p, GridS.lT, RouteS.lT]
  refine ws (st_po (po_assign rfl) rfl rfl rfl ?_)
  refine s_nil ?_
  refine at_then_wp ?_
  refine r_seq ?_
  refine r_seq ?_
  refine r_reg ?_
  refine ws (st_po (po_move rfl) rfl rfl rfl ?_)
  refine ws (st_po (po_peq rfl rfl (by exact fc_ptr_28)) rfl rfl rfl ?_)
  refine s_nil ?_
  refine at_then_wp ?_
  first | refine r_dec_f rfl (by simp) ?_ | refine r_nd_f rfl (by simp) ?_ | refine r_cond_f rfl (by simp) ?_
  refine r_skip ?_
  refine at_then_wp ?_
  refine r_seq ?_
  refine r_reg ?_
  refine ws (st_po (po_move rfl) rfl rfl rfl ?_)
  refine ws (st_po (po_move rfl) rfl rfl rfl ?_)
  refine ws (st_po (po_assign rfl) rfl rfl rfl ?_)
  refine ws (st_po (po_assign rfl) rfl rfl rfl ?_)
  refine s_nil ?_
  refine at_then_wp ?_
  refine r_ret ?_
  refine at_ret2 rfl (rv_tmp rfl) (rv_tmp rfl) ⟨_, ⟨f', r, by rw [hgr], rfl, by rw [hgr]; exact ok, by rw [hgr]; exact hw, by rw [hgr]; exact hh, by rw [hgr]; exact hc, by rw [hgr]; exact hep, by rw [he]; exact hep, hg, by rw [hgr]; exact hro, by rw [hgr]; exact hv1⟩, ?_⟩
  try dsimp only [List.cons_append, List.nil_append, GridS.l, GridS.p, MeshS.l, MeshS.lF, MeshS.p, FinderS.l, FinderS.p, FinderS.lF, RouteS.l, RouteS.p, GridS.lT, RouteS.lT]
  exact ent
/-! ## two sectors in a row -/
def lineC : List Int := List.replicate 17 1
theorem line_opn {c : Int} : Opn lineC c ↔ 0 ≤ c ∧ c < 17 := by
  unfold Opn lineC
  constructor
  · rintro ⟨h1, h2, _⟩; simp at h2; omega
  · rintro ⟨h1, h2⟩
    refine ⟨h1, by simp; omega, ?_⟩
    rw [gAt_get (by simp; omega)]
    show ¬ (List.replicate 17 (1 : Int))[c.toNat]'(by simp; omega) = 255
    rw [List.getElem_replicate]; decide
theorem line_flat {g : GridS} (ok : GridOk g) (hw : g.w = 17) (hh : g.h = 1) (hc : g.c = lineC) {c : Int} (h : 0 ≤ c ∧ c < 17) : flD g 0 c = c := by
  have hI : INF = 1099511627776 := rfl
  have his : ∀ {c : Int}, IsC 17 1 c ↔ 0 ≤ c ∧ c < 17 := fun {c} => ⟨fun k => by have := k.2; omega, fun k => ⟨by decide, by omega⟩⟩
  have hop : ∀ {c : Int}, OpC g.w g.h g.c c ↔ 0 ≤ c ∧ c < 17 := fun {c} => by
    rw [hw, hh, hc]; exact ⟨fun k => line_opn.1 k.1, fun k => ⟨line_opn.2 k, his.2 k⟩⟩
  have hco : ∀ {m : Int}, 0 ≤ m ∧ m < 17 → gAt g.c m = 1 := fun {m} k => by
    rw [hc, gAt_get (by unfold lineC; simp; omega)]
    show (List.replicate 17 (1 : Int))[m.toNat]'(by simp; omega) = 1
    rw [List.getElem_replicate]
  have hD : IsD g.w g.h g.c (OpC g.w g.h g.c) (srcT g.c 0) (fun c => if 0 ≤ c ∧ c < 17 then c else INF) := by
    refine ⟨fun c hn => if_neg (fun k => hn (hop.2 k)), fun c => ?_, fun c k hs => ?_, fun c m h1 h2 ⟨s, hs, e⟩ _ => ?_, fun c => ?_⟩
    · split <;> omega
    · obtain ⟨_, rfl, rfl⟩ := hs; simp
    · rw [hop] at h1 h2
      rw [if_pos h1, if_pos h2, hco h2]
      rw [hw, hh] at e
      have := (step_ok (his.2 h1) hs.1 (by omega)).2 (by omega)
      rw [e] at this
      have hd : dx s ≤ 1 ∧ -1 ≤ dx s := by unfold dx; split <;> (try split) <;> omega
      have e3 := this.2.1
      rw [Int.emod_eq_of_lt h1.1 h1.2, Int.emod_eq_of_lt h2.1 h2.2] at e3
      omega
    · by_cases k : 0 ≤ c ∧ c < 17
      · rw [if_pos k]
        by_cases e : c = 0
        · exact .inr (.inl ⟨by rw [hc]; exact line_opn.2 (by omega), e, e⟩)
        · refine .inr (.inr ⟨c - 1, hop.2 (by omega), ⟨3, by omega, ?_⟩, ?_⟩)
          · rw [hw, hh, (step_val (his.2 k)).2.2.2, if_pos (by rw [Int.emod_eq_of_lt k.1 k.2]; omega)]
          · rw [if_pos (by omega), hco (by omega)]; omega
      · rw [if_neg k]; exact .inl rfl
  rw [← fl_eq ok hD c]
  exact if_pos h
theorem line_made : MadeOk 17 1 lineC := ⟨by omega, by omega, by simp [lineC], fun x hx => by have := List.eq_of_mem_replicate hx; omega⟩
theorem line_seeds {g : GridS} (ok : GridOk g) {r : RouteS} (hw : g.w = 17) (hh : g.h = 1) (hc : g.c = lineC) (hr : RouteOk g r) (hg : r.goal = 0) : seedsG g.w g.h g.c (atN r) r.goal 1 = [⟨0, 3, 16⟩] := by
  have hn : Nd g.w g.h g.c 15 := by
    rw [hw, hh, hc]
    exact ⟨⟨line_opn.2 (by omega), by decide⟩, 1, by omega, by decide, by decide⟩
  have ha : atN r 15 = 15 := by
    rw [hr.at ok, if_pos hn, hg]; exact line_flat ok hw hh hc (by omega)
  have e1 : nodesN 17 1 lineC 1 = [16] := by decide +kernel
  have e2 : crossN 17 1 lineC 16 = [⟨15, 1⟩] := by decide +kernel
  have hI : INF = 1099511627776 := rfl
  unfold seedsG seedsO seedC
  rw [hw, hh, hc, hg, e1, if_neg (by decide +kernel)]
  simp only [List.flatMap_cons, List.flatMap_nil, List.append_nil, e2]
  unfold seedE
  dsimp only
  rw [ha, if_pos (by decide)]
  decide +kernel
theorem law16_told : Spec PP 14 #[] [] (fun v M => v = .bool true ∧ M = []) := by
  refine spec_of (Go.Proofs.Tryz.func14) rfl rfl rfl (by exact fc_enters_14) ?_
  intro g F
  try dsimp only [List.cons_append, List.nil_append, GridS.l, GridS.p, MeshS.l, MeshS.lF, MeshS.p, FinderS.l, FinderS.p, FinderS.lF, RouteS.l, RouteS.p, GridS.lT, RouteS.lT]
  refine r_seq ?_
  refine r_reg ?_
  refine ws (st_po (po_assign rfl) rfl rfl rfl ?_)
  refine s_nil ?_
  refine at_then_wp ?_
  refine r_seq ?_
  refine r_reg ?_
  refine ws (st_xo (xo_make eB (0) rfl rfl (by exact fc_slice_22_5_1) (by exact fc_elem_5_1_1) (by exact fc_zero_5) rfl (by first | omega | (simp only [List.length_nil, List.length_cons, List.length_append, List.length_replicate, List.length_set, List.length_map, List.length_take, List.length_drop]; omega)) (by first | omega | (simp only [List.length_nil, List.length_cons, List.length_append, List.length_replicate, List.length_set, List.length_map, List.length_take, List.length_drop]; omega)) (by first | omega | (simp only [List.length_nil, List.length_cons, List.length_append, List.length_replicate, List.length_set, List.length_map, List.length_take, List.length_drop]; omega))) rfl rfl rfl ?_)
  rintro v5 _ rfl
  refine ws (st_po (po_build1 rfl (by exact fc_zero_24) (by exact fc_places_24_0_1_2) (by exact fc_info_24) rfl) rfl rfl rfl ?_)
  refine ws (st_xo (xo_alloc (by exact fc_zero_24)) rfl rfl rfl ?_)
  rintro _ _ ⟨b1, rfl, rfl⟩
  refine ws (st_so (so_storea1 rfl rfl (by exact fc_agg_24_3) rfl rfl) rfl rfl ?_)
  refine s_nil ?_
  refine at_then_wp ?_
  refine r_seq ?_
  refine r_seq ?_
  refine r_reg ?_
  refine ws (st_po (po_assign rfl) rfl rfl rfl ?_)
  refine s_nil ?_
  refine at_then_wp ?_
  refine r_block ?_
  rw [show (17 : Int).toNat = 17 from rfl, fill2_0 1 0]
  refine r_loop (S := Nat) (fun k => [(2, .int .i64 k)]) [(1, _)] (fun k => [Blk b1 24 [.int .i64 17, .int .i64 1, v5], Sl eB v5 (fill2 1 0 17 k), F]) (fun k => k ≤ 17) (fun k => 17 - k) (0) (And.intro rfl (trivial)) (And.intro rfl (trivial)) (by omega) ent ?_
  rintro k hk
  try dsimp only [List.cons_append, List.nil_append, GridS.l, GridS.p, MeshS.l, MeshS.lF, MeshS.p, FinderS.l, FinderS.p, FinderS.lF, RouteS.l, RouteS.p, GridS.lT, RouteS.lT]
  refine r_seq ?_
  refine r_seq ?_
  refine r_reg ?_
  refine ws (st_po (po_move rfl) rfl rfl rfl ?_)
  refine ws (st_po (po_lt rfl rfl) rfl rfl rfl ?_)
  refine s_nil ?_
  refine at_then_wp ?_
  first | refine r_cond_not rfl ?_ ?_ | refine r_cond_dec rfl ?_ ?_ | refine r_cond rfl ?_ ?_
  · intro hlt
    have hll := fill2_len (1 : Int) 0 hk
    refine r_skip ?_
    refine at_then_wp ?_
    refine r_seq ?_
    refine r_block ?_
    refine r_reg ?_
    refine ws (st_po (po_faddr rfl (by exact fc_field_24_2_2)) rfl rfl rfl ?_)
    refine ws (st_po (po_load rfl (by exact fc_flat_22) (by rfl)) rfl rfl rfl ?_)
    refine ws (st_po (po_move rfl) rfl rfl rfl ?_)
    refine ws (st_po (po_iaddr rfl rfl (by exact fc_slice_22_5_1) (by first | omega | (simp only [List.length_nil, List.length_cons, List.length_append, List.length_replicate, List.length_set, List.length_map, List.length_take, List.length_drop]; omega)) (by first | omega | (simp only [List.length_nil, List.length_cons, List.length_append, List.length_replicate, List.length_set, List.length_map, List.length_take, List.length_drop]; omega))) rfl rfl rfl ?_)
    refine ws (st_so (so_store_sl rfl rfl (List.getElem?_eq_getElem (by first | omega | (simp only [List.length_nil, List.length_cons, List.length_append, List.length_replicate, List.length_set, List.length_map, List.length_take, List.length_drop]; omega))) (by exact fc_flat_5) (by decide) (by rfl) (by rfl)) rfl rfl ?_)
    refine s_nil ?_
    refine at_block_normal ?_
    refine at_then_wp ?_
    refine r_reg ?_
    refine ws (st_po (po_move rfl) rfl rfl rfl ?_)
    refine ws (st_po (po_add' rfl rfl (by omega) (by omega)) rfl rfl rfl ?_)
    refine ws (st_po (po_assign rfl) rfl rfl rfl ?_)
    refine s_nil ?_
    simp only [Int.toNat_natCast]
    rw [fill2_set _ _ (by omega)]
    exact at_again (k + 1) (And.intro rfl (trivial)) (And.intro rfl (trivial)) (by omega) (by omega) ent
  · intro hlt
    rw [show k = 17 by omega, fill2_n, show List.replicate 17 (1 : Int) = lineC from rfl]
    refine r_exit ?_
    refine at_then_exit ?_
    refine at_then_exit ?_
    refine at_block_here ?_
    refine at_then_wp ?_
    refine r_seq ?_
    refine r_reg ?_
    refine ws (st_po (po_loada rfl (by exact fc_agg_24_3) (by rfl)) rfl rfl rfl ?_)
    refine ws (st_call (co_fn rfl rfl) (law16_found 17 1 v5 lineC line_made 0 (by decide)) (by infer_instance) rfl rfl rfl ?_)
    rintro v17 _ ⟨f, r, rfl, rfl, ok, hw, hh, hc, hep, hre, hg, hro, hvs⟩
    try dsimp only [List.cons_append, List.nil_append, GridS.l, GridS.p, MeshS.l, MeshS.lF, MeshS.p, FinderS.l, FinderS.p, FinderS.lF, RouteS.l, RouteS.p, GridS.lT, RouteS.lT]
    have hse := line_seeds ok hw hh hc hro hg
    refine ws (st_po (po_move rfl) rfl rfl rfl ?_)
    refine ws (st_po (po_extract rfl rfl) rfl rfl rfl ?_)
    refine ws (st_po (po_extract rfl rfl) rfl rfl rfl ?_)
    refine ws (st_po (po_assign rfl) rfl rfl rfl ?_)
    refine ws (st_po (po_assign rfl) rfl rfl rfl ?_)
    refine s_nil ?_
    refine at_then_wp ?_
    refine r_seq ?_
    refine r_reg ?_
    refine ws (st_po (po_move rfl) rfl rfl rfl ?_)
    refine ws (st_po (po_pne rfl rfl (by exact fc_ptr_27)) rfl rfl rfl ?_)
    refine ws (st_po (po_bt (po_move rfl) (rfl)) rfl rfl rfl ?_)
    refine ws (st_po (po_move rfl) rfl rfl rfl ?_)
    refine ws (st_po (po_move rfl) rfl rfl rfl ?_)
    refine ws (st_call (co_fn rfl rfl) (inject_Seeds f.m.g ok r hro.rng (by rw [hre, hep]) (by rw [hg, hw, hh]; decide) 1) (by infer_instance) rfl rfl rfl ?_)
    rintro v25 _ ⟨ys, rfl, hp, hs⟩
    try dsimp only [List.cons_append, List.nil_append, GridS.l, GridS.p, MeshS.l, MeshS.lF, MeshS.p, FinderS.l, FinderS.p, FinderS.lF, RouteS.l, RouteS.p, GridS.lT, RouteS.lT]
    rw [hse, List.perm_singleton] at hp
    subst hp
    refine ws (st_po (po_build1 rfl (by exact fc_zero_45) (by exact fc_places_45_0_1_2) (by exact fc_info_45) rfl) rfl rfl rfl ?_)
    refine ws (st_xo (xo_bslice eS [⟨0, 3, 16⟩] rfl (by exact fc_slice_32_45_3) (by exact fc_elem_45_3_24) ⟨rfl, rfl, trivial⟩ rfl (by decide)) rfl rfl rfl ?_)
    rintro v27 _ rfl
    refine ws (st_call (co_fn rfl rfl) (ref_SameSeeds v25 v27 [⟨0, 3, 16⟩] [⟨0, 3, 16⟩] (by simp)) (by infer_instance) rfl rfl rfl ?_)
    rintro v28 _ ⟨rfl, rfl⟩
    try dsimp only [List.cons_append, List.nil_append, GridS.l, GridS.p, MeshS.l, MeshS.lF, MeshS.p, FinderS.l, FinderS.p, FinderS.lF, RouteS.l, RouteS.p, GridS.lT, RouteS.lT]
    refine ws (st_po (po_pick_t rfl rfl) rfl rfl rfl ?_)
    refine ws (st_po (po_assign rfl) rfl rfl rfl ?_)
    refine s_nil ?_
    refine at_then_wp ?_
    refine r_ret ?_
    refine at_ret1 rfl (rv_tmp rfl) ⟨_, ⟨by simp, rfl⟩, ?_⟩
    try dsimp only [List.cons_append, List.nil_append, GridS.l, GridS.p, MeshS.l, MeshS.lF, MeshS.p, FinderS.l, FinderS.p, FinderS.lF, RouteS.l, RouteS.p, GridS.lT, RouteS.lT]
    exact ent

end Hd
end
section
namespace Hd
set_option maxRecDepth 100000
open Go

theorem made_cell {w h : Int} {C : List Int} (k : MadeOk w h C) (goal : Int) : IsC w h (0 + goal % ((C.length : Int) - 1 - 0 + 1)) := by
  have hm := may_mul k.may.1
  have hl := k.len
  have := Int.emod_nonneg goal (show (C.length : Int) - 1 - 0 + 1 ≠ 0 by omega)
  have := Int.emod_lt_of_pos goal (show (0 : Int) < (C.length : Int) - 1 - 0 + 1 by omega)
  exact ⟨k.may.1, by omega, by omega⟩
theorem made_sec {w h : Int} {C : List Int} (k : MadeOk w h C) (sector : Int) : IsS w h (0 + sector % ((secsN w h).1 * (secsN w h).2 - 1 - 0 + 1)) := by
  have ha := acr_pos k.may.1
  have hs : (secsN w h).1 * (secsN w h).2 = acrN w * acrN h := by rw [secsN, if_pos k.may.1]
  have hp : 1 ≤ acrN w * acrN h := Int.mul_pos (by omega) (by omega)
  rw [hs]
  have := Int.emod_nonneg sector (show acrN w * acrN h - 1 - 0 + 1 ≠ 0 by omega)
  have := Int.emod_lt_of_pos sector (show (0 : Int) < acrN w * acrN h - 1 - 0 + 1 by omega)
  exact ⟨k.may.1, by omega, by omega⟩
theorem made_cnt {w h : Int} {C : List Int} (k : MadeOk w h C) : 1 ≤ (secsN w h).1 * (secsN w h).2 ∧ (secsN w h).1 * (secsN w h).2 ≤ 1048576 := by
  have ha := acr_pos k.may.1
  have hs : (secsN w h).1 * (secsN w h).2 = acrN w * acrN h := by rw [secsN, if_pos k.may.1]
  have hp : 1 ≤ acrN w * acrN h := Int.mul_pos (by omega) (by omega)
  have := secs_mul w h
  omega
theorem law16_Elder (K : HP) (w h : Int) (cv : Value) (c : List Int) [Rd [K] cv Int eB c] (hc : ∀ x ∈ c, 0 ≤ x ∧ x ≤ 255) (goal sector lc lk : Int) :
    Spec PP 5 #[.int .i64 w, .int .i64 h, cv, .int .i64 goal, .int .i64 sector, .agg #[.int .i64 lc, .int .i64 lk]] [K] (fun v M => v = .bool true ∧ M = [K]) := by
  refine spec_of (Go.Proofs.Tryz.func5) rfl rfl rfl (by exact fc_enters_5) ?_
  intro g F
  try dsimp only [List.cons_append, List.nil_append, GridS.l, GridS.p, MeshS.l, MeshS.lF, MeshS.p, FinderS.l, FinderS.p, FinderS.lF, RouteS.l, RouteS.p, GridS.lT, RouteS.lT]
  refine r_seq ?_
  refine r_reg ?_
  refine ws (st_xo (xo_box rfl rfl) rfl rfl rfl ?_)
  rintro _ _ ⟨b11, rfl, rfl⟩
  refine ws (st_po (po_assign rfl) rfl rfl rfl ?_)
  refine s_nil ?_
  refine at_then_wp ?_
  refine r_seq ?_
  refine r_reg ?_
  refine ws (st_po (po_move rfl) rfl rfl rfl ?_)
  refine ws (st_po (po_move rfl) rfl rfl rfl ?_)
  refine ws (st_po (po_move rfl) rfl rfl rfl ?_)
  refine ws (st_call (co_fn rfl rfl) (ref_Made K w h cv c hc) (by infer_instance) rfl rfl rfl ?_)
  rintro v20 _ ⟨W, H, mv, C, rfl, rfl, hm⟩
  try dsimp only [List.cons_append, List.nil_append, GridS.l, GridS.p, MeshS.l, MeshS.lF, MeshS.p, FinderS.l, FinderS.p, FinderS.lF, RouteS.l, RouteS.p, GridS.lT, RouteS.lT]
  have hmm := may_mul hm.may.1
  have hml := hm.len
  refine ws (st_xo (xo_alloc (by exact fc_zero_24)) rfl rfl rfl ?_)
  rintro _ _ ⟨b13, rfl, rfl⟩
  refine ws (st_so (so_storea1 rfl rfl (by exact fc_agg_24_3) rfl rfl) rfl rfl ?_)
  refine s_nil ?_
  refine at_then_wp ?_
  refine r_seq ?_
  refine r_ord [] _ [(0, 0), (1, 1), (2, 1), (3, 0), (4, 0), (5, 1), (6, 2), (7, 2), (8, 1), (9, 1), (10, 1), (11, 1), (12, 1)] fc_mixed (by kernel_rfl) (fun _ h => h) ?_
  refine o_rd rfl (po_loada rfl (by exact fc_agg_24_3) (by rfl)) (by first | exact fun _ h => h | exact ent) rfl rfl rfl ?_
  refine o_fr rfl (po_move rfl) rfl rfl rfl ?_
  refine o_fr rfl (po_faddr rfl (by exact fc_field_24_2_2)) rfl rfl rfl ?_
  refine o_rd rfl (po_load rfl (by exact fc_flat_22) (by rfl)) (by first | exact fun _ h => h | exact ent) rfl rfl rfl ?_
  refine o_rd rfl (po_len rfl (by exact fc_slice_22_5_1)) (by first | exact fun _ h => h | exact ent) rfl rfl rfl ?_
  refine o_fr rfl (po_sub' rfl rfl (by omega) (by omega)) rfl rfl rfl ?_
  refine o_st rfl (st_call (co_fn rfl rfl) (ref_Within goal 0 ((C.length : Int) - 1) (by omega) (by omega) (by omega)) (by infer_instance) rfl rfl rfl ?_)
  rintro v28 _ ⟨rfl, rfl⟩
  try dsimp only [List.cons_append, List.nil_append, GridS.l, GridS.p, MeshS.l, MeshS.lF, MeshS.p, FinderS.l, FinderS.p, FinderS.lF, RouteS.l, RouteS.p, GridS.lT, RouteS.lT]
  refine ⟨fun _ => (by first | exact fun _ h => h | exact ent), ?_⟩
  refine o_st rfl (st_call (co_fn rfl rfl) (law16_found W H mv C hm _ (made_cell hm goal)) (by infer_instance) rfl rfl rfl ?_)
  rintro v29 _ ⟨f, r, rfl, rfl, ok, hw, hh, hcc, hep, hre, hg, hro, hvs⟩
  try dsimp only [List.cons_append, List.nil_append, GridS.l, GridS.p, MeshS.l, MeshS.lF, MeshS.p, FinderS.l, FinderS.p, FinderS.lF, RouteS.l, RouteS.p, GridS.lT, RouteS.lT]
  refine ⟨fun _ => (by first | exact fun _ h => h | exact ent), ?_⟩
  refine o_fr rfl (po_move rfl) rfl rfl rfl ?_
  refine o_fr rfl (po_extract rfl rfl) rfl rfl rfl ?_
  refine o_fr rfl (po_extract rfl rfl) rfl rfl rfl ?_
  refine o_fr rfl (po_assign rfl) rfl rfl rfl ?_
  refine o_fr rfl (po_assign rfl) rfl rfl rfl ?_
  refine o_nil ?_
  refine at_then_wp ?_
  refine r_seq ?_
  refine r_seq ?_
  refine r_ord [] [Blk b13 24 [.int .i64 W, .int .i64 H, mv], Blk b11 51 [.int .i64 lc, .int .i64 lk], Sl eB mv C] [(0, 1), (1, 1), (2, 1), (3, 1), (4, 1), (5, 0), (6, 1), (7, 0), (8, 0), (9, 1), (11, 1), (12, 0), (10, 2), (13, 2), (14, 2), (15, 1), (16, 1)] fc_mixed (by kernel_rfl) ent ?_
  refine o_fr rfl (po_move rfl) rfl rfl rfl ?_
  refine o_fr rfl (po_peq rfl rfl (by exact fc_ptr_27)) rfl rfl rfl ?_
  refine o_fr rfl (po_bf (po_move rfl) (rfl)) rfl rfl rfl ?_
  refine o_fr rfl (po_move rfl) rfl rfl rfl ?_
  refine o_fr rfl (po_faddr rfl (by exact fc_field_51_0_0)) rfl rfl rfl ?_
  refine o_rd rfl (po_load rfl (by exact fc_flat_3) (by rfl)) (by first | exact fun _ h => h | exact ent) rfl rfl rfl ?_
  refine o_fr rfl (po_faddr rfl (by exact fc_field_24_2_2)) rfl rfl rfl ?_
  refine o_rd rfl (po_load rfl (by exact fc_flat_22) (by rfl)) (by first | exact fun _ h => h | exact ent) rfl rfl rfl ?_
  refine o_rd rfl (po_len rfl (by exact fc_slice_22_5_1)) (by first | exact fun _ h => h | exact ent) rfl rfl rfl ?_
  refine o_fr rfl (po_sub' rfl rfl (by omega) (by omega)) rfl rfl rfl ?_
  refine o_fr rfl (po_faddr rfl (by exact fc_field_51_1_1)) rfl rfl rfl ?_
  refine o_rd rfl (po_load rfl (by exact fc_flat_3) (by rfl)) (by first | exact fun _ h => h | exact ent) rfl rfl rfl ?_
  refine o_st rfl (st_call (co_fn rfl rfl) (ref_Within lc 0 ((C.length : Int) - 1) (by omega) (by omega) (by omega)) (by infer_instance) rfl rfl rfl ?_)
  rintro v42 _ ⟨rfl, rfl⟩
  try dsimp only [List.cons_append, List.nil_append, GridS.l, GridS.p, MeshS.l, MeshS.lF, MeshS.p, FinderS.l, FinderS.p, FinderS.lF, RouteS.l, RouteS.p, GridS.lT, RouteS.lT]
  refine ⟨fun _ => (by first | exact fun _ h => h | exact ent), ?_⟩
  refine o_st rfl (st_call (co_fn rfl rfl) (ref_Within lk 1 255 (by omega) (by omega) (by omega)) (by infer_instance) rfl rfl rfl ?_)
  rintro v45 _ ⟨rfl, rfl⟩
  try dsimp only [List.cons_append, List.nil_append, GridS.l, GridS.p, MeshS.l, MeshS.lF, MeshS.p, FinderS.l, FinderS.p, FinderS.lF, RouteS.l, RouteS.p, GridS.lT, RouteS.lT]
  refine ⟨fun _ => (by first | exact fun _ h => h | exact ent), ?_⟩
  have hlc := made_cell hm lc
  refine o_st rfl (st_call (co_fn rfl rfl) (grid_Edit f.m.g (0 + lc % ((C.length : Int) - 1 - 0 + 1)) (1 + lk % (255 - 1 + 1)) ok (by rw [hcc]; have := hlc.2; omega) (by omega) (by omega)) (by infer_instance) rfl rfl rfl ?_)
  rintro v46 _ ⟨rfl, rfl⟩
  try dsimp only [List.cons_append, List.nil_append, GridS.l, GridS.p, MeshS.l, MeshS.lF, MeshS.p, FinderS.l, FinderS.p, FinderS.lF, RouteS.l, RouteS.p, GridS.lT, RouteS.lT]
  refine ⟨fun _ => (by first | exact fun _ h => h | exact ent), ?_⟩
  refine o_fr rfl (po_ne rfl rfl) rfl rfl rfl ?_
  refine o_fr rfl (po_pick_f rfl rfl) rfl rfl rfl ?_
  refine o_nil ?_
  refine at_then_wp ?_
  first | refine r_dec_f rfl (by simp) ?_ | refine r_nd_f rfl (by simp) ?_ | refine r_cond_f rfl (by simp) ?_
  have hcn := made_cnt hm
  refine r_skip ?_
  refine at_then_wp ?_
  refine r_seq ?_
  refine r_reg ?_
  refine ws (st_po (po_move rfl) rfl rfl rfl ?_)
  refine ws (st_po (po_faddr rfl (by exact fc_field_24_0_0)) rfl rfl rfl ?_)
  refine ws (st_po (po_load rfl (by exact fc_flat_3) (by rfl)) rfl rfl rfl ?_)
  refine ws (st_po (po_faddr rfl (by exact fc_field_24_1_1)) rfl rfl rfl ?_)
  refine ws (st_po (po_load rfl (by exact fc_flat_3) (by rfl)) rfl rfl rfl ?_)
  refine ws (st_call (co_fn rfl rfl) (ref_Count W H) (by infer_instance) rfl rfl rfl ?_)
  rintro v54 _ ⟨rfl, rfl⟩
  try dsimp only [List.cons_append, List.nil_append, GridS.l, GridS.p, MeshS.l, MeshS.lF, MeshS.p, FinderS.l, FinderS.p, FinderS.lF, RouteS.l, RouteS.p, GridS.lT, RouteS.lT]
  refine ws (st_po (po_sub' rfl rfl (by omega) (by omega)) rfl rfl rfl ?_)
  refine ws (st_call (co_fn rfl rfl) (ref_Within sector 0 ((secsN W H).1 * (secsN W H).2 - 1) (by omega) (by omega) (by omega)) (by infer_instance) rfl rfl rfl ?_)
  rintro v56 _ ⟨rfl, rfl⟩
  try dsimp only [List.cons_append, List.nil_append, GridS.l, GridS.p, MeshS.l, MeshS.lF, MeshS.p, FinderS.l, FinderS.p, FinderS.lF, RouteS.l, RouteS.p, GridS.lT, RouteS.lT]
  refine ws (st_po (po_assign rfl) rfl rfl rfl ?_)
  refine s_nil ?_
  refine at_then_wp ?_
  refine r_seq ?_
  refine r_reg ?_
  refine ws (st_call (co_fn rfl rfl) (law16_told) (by infer_instance) rfl rfl rfl ?_)
  rintro v57 _ ⟨rfl, rfl⟩
  try dsimp only [List.cons_append, List.nil_append, GridS.l, GridS.p, MeshS.l, MeshS.lF, MeshS.p, FinderS.l, FinderS.p, FinderS.lF, RouteS.l, RouteS.p, GridS.lT, RouteS.lT]
  refine ws (st_po (po_bt (po_move rfl) (rfl)) rfl rfl rfl ?_)
  refine ws (st_po (po_move rfl) rfl rfl rfl ?_)
  refine ws (st_po (po_move rfl) rfl rfl rfl ?_)
  refine ws (st_po (po_move rfl) rfl rfl rfl ?_)
  refine ws (st_call (co_fn rfl rfl) (inject_Seeds_ep (f.m.g.edit (0 + lc % ((C.length : Int) - 1 - 0 + 1)) (1 + lk % (255 - 1 + 1))) r (by show r.ep ≠ f.m.g.ep + 1; omega) _) (by infer_instance) rfl rfl rfl ?_)
  rintro v62 _ ⟨rfl, rfl⟩
  try dsimp only [List.cons_append, List.nil_append, GridS.l, GridS.p, MeshS.l, MeshS.lF, MeshS.p, FinderS.l, FinderS.p, FinderS.lF, RouteS.l, RouteS.p, GridS.lT, RouteS.lT]
  refine ws (st_po (po_len rfl (by exact fc_slice_32_45_3)) rfl rfl rfl ?_)
  refine ws (st_po (po_eq rfl rfl) rfl rfl rfl ?_)
  refine ws (st_po (po_pick_t rfl rfl) rfl rfl rfl ?_)
  refine ws (st_po (po_bt (po_move rfl) (rfl)) rfl rfl rfl ?_)
  refine ws (st_po (po_move rfl) rfl rfl rfl ?_)
  refine ws (st_po (po_move rfl) rfl rfl rfl ?_)
  refine ws (st_call (co_fn rfl rfl) (inject_Seeds_g r (by omega) _) (by infer_instance) rfl rfl rfl ?_)
  rintro v69 _ ⟨rfl, rfl⟩
  try dsimp only [List.cons_append, List.nil_append, GridS.l, GridS.p, MeshS.l, MeshS.lF, MeshS.p, FinderS.l, FinderS.p, FinderS.lF, RouteS.l, RouteS.p, GridS.lT, RouteS.lT]
  refine ws (st_po (po_len rfl (by exact fc_slice_32_45_3)) rfl rfl rfl ?_)
  refine ws (st_po (po_eq rfl rfl) rfl rfl rfl ?_)
  refine ws (st_po (po_pick_t rfl rfl) rfl rfl rfl ?_)
  refine ws (st_po (po_bt (po_move rfl) (rfl)) rfl rfl rfl ?_)
  refine ws (st_po (po_move rfl) rfl rfl rfl ?_)
  refine ws (st_po (po_move rfl) rfl rfl rfl ?_)
  refine ws (st_call (co_fn rfl rfl) (inject_Seeds_r (f.m.g.edit (0 + lc % ((C.length : Int) - 1 - 0 + 1)) (1 + lk % (255 - 1 + 1))) _) (by infer_instance) rfl rfl rfl ?_)
  rintro v76 _ ⟨rfl, rfl⟩
  try dsimp only [List.cons_append, List.nil_append, GridS.l, GridS.p, MeshS.l, MeshS.lF, MeshS.p, FinderS.l, FinderS.p, FinderS.lF, RouteS.l, RouteS.p, GridS.lT, RouteS.lT]
  refine ws (st_po (po_len rfl (by exact fc_slice_32_45_3)) rfl rfl rfl ?_)
  refine ws (st_po (po_eq rfl rfl) rfl rfl rfl ?_)
  refine ws (st_po (po_pick_t rfl rfl) rfl rfl rfl ?_)
  refine ws (st_po (po_assign rfl) rfl rfl rfl ?_)
  refine s_nil ?_
  refine at_then_wp ?_
  refine r_ret ?_
  refine at_ret1 rfl (rv_tmp rfl) ⟨_, ⟨rfl, rfl⟩, ?_⟩
  try dsimp only [List.cons_append, List.nil_append, GridS.l, GridS.p, MeshS.l, MeshS.lF, MeshS.p, FinderS.l, FinderS.p, FinderS.lF, RouteS.l, RouteS.p, GridS.lT, RouteS.lT]
  exact ent
end Hd
end
section
namespace Hd
open Go Go.ChangeShapes Go.WideShapes Go.ChangeAt Go.RowKit
/-! ## from the arguments as they lie to what the walks are told -/
theorem open_bytes {H : Type} {enc : TypeId × Value → H} {P : Program} {W : World} {r : Reach} {b0 : Nat} {t e : TypeId} {v : Value} {d : DataW H} {p : List MemPlace} (ht : P.underlying t = some (.slice e)) (he : P.underlying e = some (.int .u8)) (hc : P.cellsOf e = 1)
    (hv : Value.okWide P W r b0 t v) (h : DataW.Trod enc P W 0 (fun _ => true) true t v d p) : ∃ c : List Int, Reads eB v c (frag W) ∧ ∀ x ∈ c, 0 ≤ x ∧ x ≤ 255 := by
  obtain ⟨a, len, cap, rfl⟩ := okWide_slice ht hv
  obtain ⟨fuel, hf⟩ := h
  rcases open_ints ht he hc hf with ⟨hcs, _⟩ | ⟨x, l, c, zs, hcs, _, hl, hm, hz, _, hcell, hwz⟩
  · simp [Value.cells] at hcs
    obtain ⟨rfl, rfl, rfl⟩ := hcs
    exact ⟨[], .inl ⟨rfl, rfl⟩, by simp⟩
  · simp [Value.cells] at hcs
    obtain ⟨rfl, rfl, rfl⟩ := hcs
    have hsp : x.spot = none := by
      simp only [Value.okWide, ht, Cell.okWide, Cell.ok] at hv
      exact hv.2.2.2.1
    obtain ⟨b, off, spot⟩ := x
    dsimp only at hsp
    subst hsp
    have hzl : zs.length = cap := by simpa using hz
    have htl : (zs.take len).length = len := by rw [List.length_take]; omega
    refine ⟨zs.take len, .inr ⟨b, off, cap, by rw [htl], by omega, fun j u hu => ?_⟩, fun x hx => ?_⟩
    · have hj : j < len := by
        have := lt_of_get hu
        rw [flat_len, htl, show eB.k = 1 from rfl, Nat.mul_one] at this
        exact this
      have hzj : zs[j]? = some (zs.getD j 0) := by rw [List.getD_eq_getElem?_getD, List.getElem?_eq_getElem (by omega)]; rfl
      have hu2 : ((zs.take len).flatMap eB.f)[j * eB.k + 0]? = (eB.f (zs.getD j 0))[0]? := flat_get eB (zs.take len) j 0 (zs.getD j 0) (by rw [List.getElem?_take, if_pos hj, hzj]) (by decide)
      have e1 : eB.k = 1 := rfl
      rw [e1, Nat.mul_one, Nat.add_zero, hu] at hu2
      have hce := hcell j (by omega)
      have hu3 : u = .int .u8 (zs.getD j 0) := Option.some.inj hu2
      rw [add_off] at hce
      simp only [World.cell?] at hce
      show ∃ c T fr, W.heap[b]? = some (.cells c T fr) ∧ c[off + j]? = some u
      cases hb : W.heap[b]? with
      | none => simp [hb] at hce
      | some o =>
        cases o <;> simp [hb] at hce
        rename_i c T fr
        exact ⟨c, T, fr, rfl, by rw [hu3]; exact hce⟩
    · have := hwz x (List.mem_of_mem_take hx)
      simpa [Lit.wf, IntKind.min, IntKind.max, IntKind.signed, IntKind.bits] using this
theorem spec_top {f : FuncId} {args : Array Value} {W : World} {cv : Value} {c : List Int} (h : Spec PP f args [Ins (frag W) eB cv c] (fun v M => v = .bool true ∧ M = [Ins (frag W) eB cv c])) (hr : Reads eB cv c (frag W)) :
    Calls PP f args W fun e w' => e = .returned (.bool true) ∧ Below W.heap.size W w' := by
  refine (h.calls ⟨W.os, W.tape, W.output, W.drawn⟩ (fun _ => True) W ⟨rfl, rfl, rfl, Nat.le_refl _, ?_⟩).mono ?_
  · exact ⟨frag W, fun _ => none, fun b => .inr ⟨rfl, rfl⟩, ⟨fun b o e => e, hr⟩, _, _, fun b => .inr ⟨rfl, rfl⟩, trivial, trivial⟩
  · rintro e w' ⟨v, M, rfl, ⟨rfl, rfl⟩, fw⟩
    exact ⟨rfl, Fit.below rfl (fun h k => k.1) fw⟩
end Hd
end
