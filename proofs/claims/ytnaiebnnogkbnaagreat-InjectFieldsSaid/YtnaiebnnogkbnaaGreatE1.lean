/- Contracts of functions of the program, and the laws of memory that they are proved with: part 1. -/
import Derived.Shelf.SlSortCmp.WholeK
import Derived.Test.YtnaiebnnogkbnaaGreatProg
import Derived.Shelf.SlSortCmp.NoneTotal
import Derived.Test.YtnaiebnnogkbnaaGreatE0
set_option linter.unusedVariables false
set_option linter.unusedSimpArgs false
section
namespace Hd
set_option maxRecDepth 100000
open Go

/-- a bucket: its slice, what the slice holds, how many of them went -/
structure Bkt where
  v : Value
  xs : List Int
  gone : Int
def bktL (B : List Bkt) : List Value := B.flatMap fun x => [x.v, .int .i64 x.gone]
def ringL (a l : Int) (B : List Bkt) : List Value := .int .i64 a :: .int .i64 l :: bktL B
abbrev slK (x : Bkt) : HP := Sl eI x.v x.xs
abbrev ringB (b : Nat) (a l : Int) (B : List Bkt) : HP := Blk b 148 (ringL a l B)

theorem bkt_nth : ∀ (B : List Bkt) (i : Nat) (x : Bkt), B[i]? = some x → nth (bktL B) (i * 2) = some x.v ∧ nth (bktL B) (i * 2 + 1) = some (.int .i64 x.gone)
  | [], i, x, h => by simp at h
  | y :: B, 0, x, h => by simp at h; subst h; exact ⟨rfl, rfl⟩
  | y :: B, i + 1, x, h => by
    have := bkt_nth B i x (by simpa using h)
    have e : (i + 1) * 2 = i * 2 + 1 + 1 := by omega
    rw [e]
    exact this
theorem bkt_set : ∀ (B : List Bkt) (i : Nat) (x : Bkt), B[i]? = some x → (∀ v ys, (bktL B).set (i * 2) v = bktL (B.set i ⟨v, ys, x.gone⟩)) ∧ (∀ g, (bktL B).set (i * 2 + 1) (.int .i64 g) = bktL (B.set i ⟨x.v, x.xs, g⟩))
  | [], i, x, h => by simp at h
  | y :: B, 0, x, h => by simp at h; subst h; exact ⟨fun _ _ => rfl, fun _ => rfl⟩
  | y :: B, i + 1, x, h => by
    have := bkt_set B i x (by simpa using h)
    have e : (i + 1) * 2 = i * 2 + 1 + 1 := by omega
    have e2 : ∀ C : List Bkt, bktL (y :: C) = y.v :: .int .i64 y.gone :: bktL C := fun _ => rfl
    rw [e]
    constructor
    · intro v ys; rw [List.set_cons_succ, e2, e2, List.set_cons_succ, List.set_cons_succ, this.1 v ys]
    · intro g; rw [List.set_cons_succ, e2, e2, List.set_cons_succ, List.set_cons_succ, this.2 g]
theorem bkt_len : ∀ B : List Bkt, (bktL B).length = B.length * 2
  | [] => rfl
  | y :: B => by have := bkt_len B; simp only [bktL, List.flatMap_cons, List.length_append, List.length_cons, List.length_nil] at this ⊢; omega
theorem ring_nth {a l : Int} {B : List Bkt} {i : Nat} {x : Bkt} (h : B[i]? = some x) : nth (ringL a l B) (2 + i * 2) = some x.v ∧ nth (ringL a l B) (2 + i * 2 + 1) = some (.int .i64 x.gone) := by
  have := bkt_nth B i x h
  rw [show 2 + i * 2 = i * 2 + 1 + 1 by omega]
  exact this
theorem ring_set {a l : Int} {B : List Bkt} {i : Nat} {x : Bkt} (h : B[i]? = some x) : (∀ v ys, ringL a l (B.set i ⟨v, ys, x.gone⟩) = (ringL a l B).set (2 + i * 2) v) ∧ (∀ g, ringL a l (B.set i ⟨x.v, x.xs, g⟩) = (ringL a l B).set (2 + i * 2 + 1) (.int .i64 g)) := by
  have := bkt_set B i x h
  rw [show 2 + i * 2 = i * 2 + 1 + 1 by omega]
  constructor
  · intro v ys; rw [ringL, ringL, List.set_cons_succ, List.set_cons_succ, this.1 v ys]
  · intro g; rw [ringL, ringL, List.set_cons_succ, List.set_cons_succ, this.2 g]
theorem ring_len (a l : Int) (B : List Bkt) : (ringL a l B).length = 2 + B.length * 2 := by simp [ringL, bkt_len]; omega
theorem ring_blt {a l : Int} {B : List Bkt} {i o : Nat} (h : i < B.length) (ho : o < 2) : Nat.blt (2 + i * 2 + o) (ringL a l B).length = true := by rw [ring_len]; simp [Nat.blt_eq]; omega

theorem bucket_put (b : Nat) (a l : Int) (B : List Bkt) (i : Nat) (x : Bkt) (item : Int) (hi : B[i]? = some x) (hx : x.xs.length ≤ 2^40) :
    Spec PP 155 #[.pointer (some ⟨b, 2 + i * 2, none⟩), .int .i64 item] [ringB b a l B, slK x]
      (fun v M => v = .tuple #[] ∧ ∃ y : Bkt, y.xs = x.xs ++ [item] ∧ y.gone = x.gone ∧ M = [ringB b a l (B.set i y), slK y]) := by
  have hlt := lt_of_get hi
  refine spec_of (Go.Proofs.Tryz.func155) rfl rfl rfl (by exact fc_enters_155) ?_
  intro g F
  try dsimp only [ca, na]
  refine Rg ?_
  refine rp 3 rfl ?_
  refine Wp (po_faddr rfl (by exact fc_field_145_0_0)) ?_
  refine Wp (po_load rfl (by exact fc_flat_35) (ring_nth hi).1) ?_
  refine rp 1 rfl ?_
  refine Wx (xo_bslice eI [_] rfl (by exact fc_slice_35_3_1) (by exact fc_elem_3_1_8) ⟨rfl, rfl, trivial⟩ rfl (by decide)) ?_
  rintro v10 _ rfl
  refine Wx (xo_append rfl rfl (by exact fc_slice_35_3_1) (by exact fc_slice_35_3_1) (by exact fc_elem_3_1_8) (by first | omega | (simp <;> omega)) (by first | omega | (simp <;> omega))) ?_
  rintro v11 _ rfl
  refine rp 1 rfl ?_
  refine Wp (po_faddr rfl (by exact fc_field_145_0_0)) ?_
  refine Ws (so_store1 rfl rfl (by exact fc_flat_35) (s := ⟨(ring_set hi).1 _ (x.xs ++ [item])⟩) (ring_blt hlt (by decide))) ?_
  refine Sn ?_
  refine at_end0 rfl ⟨_, ⟨rfl, ⟨v11, _, _⟩, rfl, rfl, rfl⟩, ?_⟩
  try dsimp only [ca, na]
  exact ent
theorem bucket_empty (b : Nat) (a l : Int) (B : List Bkt) (i : Nat) (x : Bkt) (hi : B[i]? = some x) :
    Spec PP 141 #[.pointer (some ⟨b, 2 + i * 2, none⟩)] [ringB b a l B, slK x] (fun v M => v = .bool (decide (x.gone = x.xs.length)) ∧ M = [ringB b a l B, slK x]) := by
  refine spec_of (Go.Proofs.Tryz.func141) rfl rfl rfl (by exact fc_enters_141) ?_
  intro g F
  try dsimp only [ca, na]
  refine Sq (Rg ?_)
  refine rp 1 rfl ?_
  refine Sn (Aw (Sq ?_))
  refine r_ord [] _ [(0, 1), (1, 1), (2, 1), (3, 0), (4, 1), (5, 1), (6, 1), (7, 0), (8, 0), (9, 1), (10, 1)] fc_mixed (by kernel_rfl) (fun _ h => h) ?_
  refine Of rfl (po_move rfl) ?_
  refine Of rfl (po_nil rfl) ?_
  refine Of rfl (po_faddr rfl (by exact fc_field_145_1_1)) ?_
  refine Or rfl (po_load rfl (by exact fc_flat_3) (ring_nth hi).2) ?_
  refine Of rfl (po_move rfl) ?_
  refine Of rfl (po_nil rfl) ?_
  refine Of rfl (po_faddr rfl (by exact fc_field_145_0_0)) ?_
  refine Or rfl (po_load rfl (by exact fc_flat_35) (ring_nth hi).1) ?_
  refine Or rfl (po_len rfl (by exact fc_slice_35_3_1)) ?_
  refine Of rfl (po_eq rfl rfl) ?_
  refine Of rfl (po_assign rfl) ?_
  refine o_nil ?_
  refine Aw (Rt ?_)
  refine at_ret1 rfl (rv_tmp rfl) ⟨_, ⟨rfl, rfl⟩, ?_⟩
  try dsimp only [ca, na]
  exact ent

/-- what waits in a bucket -/
def Bkt.q (x : Bkt) : List Int := x.xs.drop x.gone.toNat
theorem bucket_pop (b : Nat) (a l : Int) (B : List Bkt) (i : Nat) (x : Bkt) (hi : B[i]? = some x) (hx : x.xs.length ≤ 2^40) (h0 : 0 ≤ x.gone) (h1 : x.gone < x.xs.length) :
    Spec PP 142 #[.pointer (some ⟨b, 2 + i * 2, none⟩)] [ringB b a l B, slK x]
      (fun v M => ∃ (y : Bkt) (it : Int), v = .int .i64 it ∧ x.q = it :: y.q ∧ y.xs.length ≤ x.xs.length ∧ (0 ≤ y.gone ∧ y.gone ≤ y.xs.length) ∧ M = [ringB b a l (B.set i y), slK y]) := by
  have hlt := lt_of_get hi
  have hi2 : (B.set i ⟨x.v, x.xs, x.gone + 1⟩)[i]? = some ⟨x.v, x.xs, x.gone + 1⟩ := by simp [hlt]
  have hq : x.q = x.xs[x.gone.toNat] :: x.xs.drop (x.gone + 1).toNat := by rw [Bkt.q, List.drop_eq_getElem_cons (by omega), show (x.gone + 1).toNat = x.gone.toNat + 1 by omega]
  refine spec_of (Go.Proofs.Tryz.func142) rfl rfl rfl (by exact fc_enters_142) ?_
  intro g F
  try dsimp only [ca, na]
  refine Sq (Rg ?_)
  refine rp 1 rfl ?_
  refine Sn (Aw (Sq ?_))
  refine r_ord [] _ [(0, 1), (1, 1), (2, 1), (3, 0), (4, 1), (5, 1), (6, 1), (7, 0), (8, 0), (9, 0), (10, 1)] fc_mixed (by kernel_rfl) (fun _ h => h) ?_
  refine Of rfl (po_move rfl) ?_
  refine Of rfl (po_nil rfl) ?_
  refine Of rfl (po_faddr rfl (by exact fc_field_145_0_0)) ?_
  refine Or rfl (po_load rfl (by exact fc_flat_35) (ring_nth hi).1) ?_
  refine Of rfl (po_move rfl) ?_
  refine Of rfl (po_nil rfl) ?_
  refine Of rfl (po_faddr rfl (by exact fc_field_145_1_1)) ?_
  refine Or rfl (po_load rfl (by exact fc_flat_3) (ring_nth hi).2) ?_
  refine Or rfl (po_iaddr rfl rfl (by exact fc_slice_35_3_1) (by first | omega | (simp <;> omega)) (by first | omega | (simp <;> omega))) ?_
  refine Or rfl (po_load_sl rfl (List.getElem?_eq_getElem (by first | omega | (simp <;> omega))) (by exact fc_flat_3) (by rfl)) ?_
  refine Of rfl (po_assign rfl) ?_
  refine o_nil ?_
  refine Aw (Sq (Rg ?_))
  refine rp 2 rfl ?_
  refine Wp (po_faddr rfl (by exact fc_field_145_1_1)) ?_
  refine Wp (po_load rfl (by exact fc_flat_3) (ring_nth hi).2) ?_
  refine Wp (po_add' rfl rfl (by omega) (by omega)) ?_
  refine rp 1 rfl ?_
  refine Wp (po_faddr rfl (by exact fc_field_145_1_1)) ?_
  refine Ws (so_store1 rfl rfl (by exact fc_flat_3) (s := ⟨(ring_set hi).2 (x.gone + 1)⟩) (ring_blt hlt (by decide))) ?_
  refine Sn (Aw (Sq (Sq (Rg ?_))))
  refine rp 1 rfl ?_
  refine Wc (co_fn rfl rfl) (bucket_empty b a l _ i ⟨x.v, x.xs, x.gone + 1⟩ hi2) ?_
  rintro v22 _ ⟨rfl, rfl⟩
  try dsimp only [ca, na]
  refine Sn (Aw ?_)
  refine Rc rfl ?_ ?_
  ·skip
   intro he
   refine Rg ?_
   refine rp 4 rfl ?_
   refine Wp (po_faddr rfl (by exact fc_field_145_0_0)) ?_
   refine Wp (po_load rfl (by exact fc_flat_35) (ring_nth hi2).1) ?_
   refine Wp (po_slice_h rfl rfl (by exact fc_slice_35_3_1) (by first | omega | (simp <;> omega)) (by first | omega | (simp <;> omega))) ?_
   refine rp 1 rfl ?_
   refine Wp (po_faddr rfl (by exact fc_field_145_0_0)) ?_
   refine Ws (so_store1 rfl rfl (by exact fc_flat_35) (s := ⟨(ring_set hi2).1 _ []⟩) (ring_blt (by simpa using hlt) (by decide))) ?_
   refine rp 1 rfl ?_
   refine Wp (po_faddr rfl (by exact fc_field_145_1_1)) ?_
   refine Ws (so_store1 rfl rfl (by exact fc_flat_3) (s := ⟨(ring_set (x := ⟨subv eI.k 0 (0 : Int).toNat x.v, [], x.gone + 1⟩) (by simp [hlt])).2 0⟩) (ring_blt (by simpa using hlt) (by decide))) ?_
   refine Sn (Aw (Sq (Rg ?_)))
   refine rp 2 rfl ?_
   refine Sn (Aw (Rt ?_))
   refine at_ent (ent_sub (E := eI) (s := x.v) (xs := x.xs) 0 (0 : Int).toNat (by decide) (by simp)) ?_
   simp only [List.set_set]
   simp only [show (0 : Int).toNat = 0 from rfl, List.take_zero, List.drop_zero]
   refine at_ret1 rfl (rv_tmp rfl) ⟨_, ⟨⟨subv eI.k 0 0 x.v, [], 0⟩, _, rfl, by rw [hq, List.drop_eq_nil_of_le (by omega)]; rfl, by simp, by simp, rfl⟩, ?_⟩
   try dsimp only [ca, na]
   exact ent
  ·skip
   intro he
   refine Sk (Aw (Sq (Rg ?_)))
   refine rp 2 rfl ?_
   refine Sn (Aw (Rt ?_))
   refine at_ret1 rfl (rv_tmp rfl) ⟨_, ⟨⟨x.v, x.xs, x.gone + 1⟩, _, rfl, hq, by simp, by dsimp only; omega, rfl⟩, ?_⟩
   try dsimp only [ca, na]
   exact ent

/-! ## the ring -/
instance (a l : Int) (B : List Bkt) : NthC (ringL a l B) 0 (.int .i64 a) := ⟨rfl⟩

theorem all_take {X : Type} (f : X → HP) : ∀ (B : List X) (i : Nat) (x : X) (R : List HP), B[i]? = some x → ∀ h, Sat (All (B.map f) :: R) h → Sat (f x :: All ((B.eraseIdx i).map f) :: R) h
  | [], i, x, R, e => by simp at e
  | y :: B, 0, x, R, e => by simp at e; subst e; exact fun h s => all_cons.1 s
  | y :: B, i + 1, x, R, e => fun h s => by
    have s1 : Sat (All (B.map f) :: f y :: R) h := sat_swap (all_cons.1 s)
    have s2 := all_take f B i x (f y :: R) (by simpa using e) h s1
    exact sat_tail (fun _ t => all_cons.2 (sat_swap t)) s2
theorem all_put {X : Type} (f : X → HP) : ∀ (B : List X) (i : Nat) (y : X) (R : List HP), i < B.length → ∀ h, Sat (f y :: All ((B.eraseIdx i).map f) :: R) h → Sat (All ((B.set i y).map f) :: R) h
  | [], i, y, R, e => by simp at e
  | z :: B, 0, y, R, e => fun h s => all_cons.2 s
  | z :: B, i + 1, y, R, e => fun h s => by
    have s1 : Sat (f y :: f z :: All ((B.eraseIdx i).map f) :: R) h := sat_tail (fun _ t => all_cons.1 t) s
    have s2 : Sat (f z :: f y :: All ((B.eraseIdx i).map f) :: R) h := sat_swap s1
    exact all_cons.2 (sat_tail (fun g t => all_put f B i y R (by simpa using e) g t) s2)
theorem ent_take {X : Type} (f : X → HP) (B : List X) {i : Nat} {x : X} (e : B[i]? = some x) {L R : List HP} [m : Has L (All (B.map f)) R] : ∀ h, Sat L h → Sat (f x :: All ((B.eraseIdx i).map f) :: R) h := fun h s => all_take f B i x R e h (m.out h s)
theorem ent_put {X : Type} (f : X → HP) (B : List X) {i : Nat} (y : X) (e : i < B.length) {L R R' : List HP} [m : Has L (f y) R] [m2 : Has R (All ((B.eraseIdx i).map f)) R'] : ∀ h, Sat L h → Sat (All ((B.set i y).map f) :: R') h :=
  fun h s => all_put f B i y R' e h (sat_tail m2.out (m.out h s))

theorem set_same {X : Type} {B : List X} {i : Nat} {x : X} (h : B[i]? = some x) : B.set i x = B := by
  apply List.ext_getElem?
  intro j
  rw [List.getElem?_set]
  by_cases e : i = j
  · subst e; rw [if_pos rfl, if_pos (lt_of_get h), h]
  · rw [if_neg e]
abbrev ringP (b : Nat) : Value := .pointer (some ⟨b, 0, none⟩)
theorem ring_Len (b : Nat) (a l : Int) (B : List Bkt) : Spec PP 111 #[ringP b] [ringB b a l B] (fun v M => v = .int .i64 l ∧ M = [ringB b a l B]) := by
  refine spec_of (Go.Proofs.Tryz.func111) rfl rfl rfl (by exact fc_enters_111) ?_
  intro g F
  try dsimp only [ca, na]
  refine Sq (Rg ?_)
  refine rp 1 rfl ?_
  refine Sn (Aw (Sq (Sq (Rg ?_))))
  refine rp 1 rfl ?_
  refine Wp (po_peq rfl rfl (by exact fc_ptr_115)) ?_
  refine Sn (Aw ?_)
  refine r_cond_f rfl (rfl) ?_
  refine Sk (Aw (Sq (Rg ?_)))
  refine rp 2 rfl ?_
  refine Wp (po_faddr rfl (by exact fc_field_148_1_1)) ?_
  refine Wp (po_load rfl (by exact fc_flat_3) (by rfl)) ?_
  refine rp 1 rfl ?_
  refine Sn (Aw (Rt ?_))
  refine at_ret1 rfl (rv_tmp rfl) ⟨_, ⟨rfl, rfl⟩, ?_⟩
  try dsimp only [ca, na]
  exact ent
theorem ring_Jump (b : Nat) (a l : Int) (B : List Bkt) (key : Int) : Spec PP 139 #[ringP b, .int .i64 key] [ringB b a l B]
    (fun v M => v = .bool (decide (l ≤ 0 ∧ a ≤ key ∧ key ≤ 1099511627776)) ∧ M = [ringB b (if l ≤ 0 ∧ a ≤ key ∧ key ≤ 1099511627776 then key else a) l B]) := by
  refine spec_of (Go.Proofs.Tryz.func139) rfl rfl rfl (by exact fc_enters_139) ?_
  intro g F
  try dsimp only [ca, na]
  refine Sq (Rg ?_)
  refine rp 1 rfl ?_
  refine Sn (Aw (Sq (Sq (Rg ?_))))
  refine rp 1 rfl ?_
  refine Wp (po_peq rfl rfl (by exact fc_ptr_115)) ?_
  refine Wp (po_bf (po_move rfl) (rfl)) ?_
  refine rp 2 rfl ?_
  refine Wp (po_faddr rfl (by exact fc_field_148_1_1)) ?_
  refine Wp (po_load rfl (by exact fc_flat_3) (by rfl)) ?_
  refine Wp (po_gt rfl rfl) ?_
  refine rp 1 rfl ?_
  by_cases h1 : 0 < l
  ·skip
   refine ws (st_po (po_bt (po_move rfl) (decide_eq_true h1)) rfl rfl rfl ?_)
   refine rp 11 rfl ?_
   refine Sn (Aw ?_)
   refine r_cond_t rfl rfl ?_
   refine Sq (Rg ?_)
   refine rp 1 rfl ?_
   refine Sn (Aw (Rt (Ar ?_)))
   refine at_ret1 rfl (rv_tmp rfl) ⟨_, ⟨by rw [decide_eq_false (by omega)], by rw [if_neg (by omega)]⟩, ?_⟩
   try dsimp only [ca, na]
   exact ent
  ·skip
   refine ws (st_po (po_bf (po_move rfl) (decide_eq_false h1)) rfl rfl rfl ?_)
   refine rp 3 rfl ?_
   refine Wp (po_faddr rfl (by exact fc_field_148_0_0)) ?_
   refine Wp (po_load rfl (by exact fc_flat_3) (by rfl)) ?_
   refine Wp (po_lt rfl rfl) ?_
   refine rp 1 rfl ?_
   by_cases h2 : key < a
   ·skip
    refine ws (st_po (po_bt (po_move rfl) (decide_eq_true h2)) rfl rfl rfl ?_)
    refine rp 3 rfl ?_
    refine Sn (Aw ?_)
    refine r_cond_t rfl rfl ?_
    refine Sq (Rg ?_)
    refine rp 1 rfl ?_
    refine Sn (Aw (Rt (Ar ?_)))
    refine at_ret1 rfl (rv_tmp rfl) ⟨_, ⟨by rw [decide_eq_false (by omega)], by rw [if_neg (by omega)]⟩, ?_⟩
    try dsimp only [ca, na]
    exact ent
   ·skip
    refine ws (st_po (po_bf (po_move rfl) (decide_eq_false h2)) rfl rfl rfl ?_)
    refine rp 1 rfl ?_
    refine Wp (po_gt rfl rfl) ?_
    refine rp 1 rfl ?_
    refine Sn (Aw ?_)
    refine Rc rfl ?_ ?_
    ·skip
     intro h3
     refine Sq (Rg ?_)
     refine rp 1 rfl ?_
     refine Sn (Aw (Rt (Ar ?_)))
     refine at_ret1 rfl (rv_tmp rfl) ⟨_, ⟨by rw [decide_eq_false (by omega)], by rw [if_neg (by omega)]⟩, ?_⟩
     try dsimp only [ca, na]
     exact ent
    ·skip
     intro h3
     refine Sk (Aw (Sq (Rg ?_)))
     refine rp 3 rfl ?_
     refine Wp (po_faddr rfl (by exact fc_field_148_0_0)) ?_
     refine Ws (so_store1 rfl rfl (by exact fc_flat_3) (s := ⟨(rfl : ringL key l B = (ringL a l B).set 0 (.int .i64 key))⟩) rfl) ?_
     refine Sn (Aw (Sq (Rg ?_)))
     refine rp 1 rfl ?_
     refine Sn (Aw (Rt ?_))
     refine at_ret1 rfl (rv_tmp rfl) ⟨_, ⟨by rw [decide_eq_true (by omega)], by rw [if_pos (by omega)]⟩, ?_⟩
     try dsimp only [ca, na]
     exact ent
theorem ring_Put (b : Nat) (a l : Int) (B : List Bkt) (key item : Int) (x : Bkt) (ha : 0 ≤ a) (hk : -9223372036854775808 ≤ key - a ∧ key - a ≤ 9223372036854775807) (hB : B.length = 256) (hx : B[(key % 256).toNat]? = some x) (hl : x.xs.length ≤ 2^40) (hl2 : -1 ≤ l ∧ l ≤ 2^60) :
    Spec PP 140 #[ringP b, .int .i64 key, .int .i64 item] [ringB b a l B, All (B.map slK)]
      (fun v M => (a ≤ key ∧ key - a < 256 ∧ v = .bool true ∧ ∃ y : Bkt, y.xs = x.xs ++ [item] ∧ y.gone = x.gone ∧ M = [ringB b a (l + 1) (B.set (key % 256).toNat y), All ((B.set (key % 256).toNat y).map slK)]) ∨
        (¬ (a ≤ key ∧ key - a < 256) ∧ v = .bool false ∧ M = [ringB b a l B, All (B.map slK)])) := by
  refine spec_of (Go.Proofs.Tryz.func140) rfl rfl rfl (by exact fc_enters_140) ?_
  intro g F
  try dsimp only [ca, na]
  refine Sq (Rg ?_)
  refine rp 1 rfl ?_
  refine Sn (Aw (Sq (Sq (Rg ?_))))
  refine rp 1 rfl ?_
  refine Wp (po_peq rfl rfl (by exact fc_ptr_115)) ?_
  refine Wp (po_bf (po_move rfl) (rfl)) ?_
  refine rp 3 rfl ?_
  refine Wp (po_faddr rfl (by exact fc_field_148_0_0)) ?_
  refine Wp (po_load rfl (by exact fc_flat_3) (by rfl)) ?_
  refine Wp (po_lt rfl rfl) ?_
  refine rp 1 rfl ?_
  by_cases h1 : key < a
  ·skip
   refine ws (st_po (po_bt (po_move rfl) (decide_eq_true h1)) rfl rfl rfl ?_)
   refine rp 8 rfl ?_
   refine Sn (Aw ?_)
   refine r_cond_t rfl rfl ?_
   refine Sq (Rg ?_)
   refine rp 1 rfl ?_
   refine Sn (Aw (Rt (Ar ?_)))
   refine at_ret1 rfl (rv_tmp rfl) ⟨_, .inr ⟨by omega, rfl, rfl⟩, ?_⟩
   try dsimp only [ca, na]
   exact ent
  ·skip
   refine ws (st_po (po_bf (po_move rfl) (decide_eq_false h1)) rfl rfl rfl ?_)
   refine rp 3 rfl ?_
   refine Wp (po_faddr rfl (by exact fc_field_148_0_0)) ?_
   refine Wp (po_load rfl (by exact fc_flat_3) (by rfl)) ?_
   refine Wp (po_sub' rfl rfl (by omega) (by omega)) ?_
   refine Wp (po_ge rfl rfl) ?_
   refine rp 1 rfl ?_
   refine Sn (Aw ?_)
   refine Rc rfl ?_ ?_
   ·skip
    intro h2
    refine Sq (Rg ?_)
    refine rp 1 rfl ?_
    refine Sn (Aw (Rt (Ar ?_)))
    refine at_ret1 rfl (rv_tmp rfl) ⟨_, .inr ⟨by omega, rfl, rfl⟩, ?_⟩
    try dsimp only [ca, na]
    exact ent
   ·skip
    intro h2
    refine Sk (Aw (Sq ?_))
    refine wp_ent (ent_take slK B hx) ?_
    refine Rg ?_
    refine rp 2 rfl ?_
    refine Wp (po_rem' rfl rfl (by omega) (by omega)) ?_
    refine rp 1 rfl ?_
    refine Wp (po_faddr rfl (by exact fc_field_148_2_2)) ?_
    refine Wp (po_iaddr_arr rfl rfl (by exact fc_arr_146_256_145_2) (by first | omega | (simp <;> omega)) (by first | omega | (simp <;> omega))) ?_
    refine rp 1 rfl ?_
    refine Wc (co_fn rfl rfl) (bucket_put b a l B _ x item hx hl) ?_
    rintro v33 _ ⟨rfl, y, hy1, hy2, rfl⟩
    try dsimp only [ca, na]
    refine Sn (Aw (Sq ?_))
    refine wp_ent (ent_put slK B (i := (key % 256).toNat) y (by omega)) ?_
    refine Rg ?_
    refine rp 2 rfl ?_
    refine Wp (po_faddr rfl (by exact fc_field_148_1_1)) ?_
    refine Wp (po_load rfl (by exact fc_flat_3) (by rfl)) ?_
    refine Wp (po_add' rfl rfl (by omega) (by omega)) ?_
    refine rp 1 rfl ?_
    refine Wp (po_faddr rfl (by exact fc_field_148_1_1)) ?_
    refine Ws (so_store1 rfl rfl (by exact fc_flat_3) (s := ⟨(rfl : ringL a (l + 1) (B.set (key % 256).toNat y) = (ringL a l (B.set (key % 256).toNat y)).set 1 (.int .i64 (l + 1)))⟩) rfl) ?_
    refine Sn (Aw (Sq (Rg ?_)))
    refine rp 1 rfl ?_
    refine Sn (Aw (Rt ?_))
    refine at_ret1 rfl (rv_tmp rfl) ⟨_, .inl ⟨by omega, by omega, rfl, y, hy1, hy2, rfl⟩, ?_⟩
    try dsimp only [ca, na]
    exact ent

/-- the first key, from a on, under which something waits -/
def FirstKey (B : List Bkt) (a k : Int) : Prop := a ≤ k ∧ (∀ j, a ≤ j → j < k → ∀ x, B[(j % 256).toNat]? = some x → x.gone = x.xs.length) ∧ ∃ x, B[(k % 256).toNat]? = some x ∧ x.gone ≠ x.xs.length
theorem ring_Pop (b : Nat) (a l : Int) (B : List Bkt) (k : Int) (ha : 0 ≤ a) (hk : k ≤ 2^60) (hB : B.length = 256) (hg : ∀ x ∈ B, x.xs.length ≤ 2^40 ∧ 0 ≤ x.gone ∧ x.gone ≤ x.xs.length) (hl : 0 < l ∧ l ≤ 2^60) (hf : FirstKey B a k) :
    Spec PP 112 #[ringP b] [ringB b a l B, All (B.map slK)]
      (fun v M => ∃ (x y : Bkt) (it : Int), v = .tuple #[.int .i64 k, .int .i64 it, .bool true] ∧ B[(k % 256).toNat]? = some x ∧ x.q = it :: y.q ∧ y.xs.length ≤ x.xs.length ∧ (0 ≤ y.gone ∧ y.gone ≤ y.xs.length) ∧
        M = [ringB b k (l - 1) (B.set (k % 256).toNat y), All ((B.set (k % 256).toNat y).map slK)]) := by
  obtain ⟨hf1, hf2, x, hx, hxg⟩ := hf
  have hxm := hg x (List.mem_of_getElem? hx)
  refine spec_of (Go.Proofs.Tryz.func112) rfl rfl rfl (by exact fc_enters_112) ?_
  intro g F
  try dsimp only [ca, na]
  refine Sq (Rg ?_)
  refine rp 3 rfl ?_
  refine Sn (Aw (Sq (Sq (Rg ?_))))
  refine rp 1 rfl ?_
  refine Wc (co_fn rfl rfl) (ring_Len b a l B) ?_
  rintro v6 _ ⟨rfl, rfl⟩
  try dsimp only [ca, na]
  refine Wp (po_eq rfl rfl) ?_
  refine Sn (Aw ?_)
  first | refine r_dec_f rfl (by omega) ?_ | refine r_nd_f rfl (by omega) ?_ | refine r_cond_f rfl (by omega) ?_
  refine Sk (Aw (Sq (Bk ?_)))
  refine r_loop (S := Int) (fun c => []) [(0, _)] (fun c => [ringB b c l B, All (B.map slK), F]) (fun c => a ≤ c ∧ c ≤ k) (fun c => (k - c).toNat) (a) (And.intro rfl (trivial)) (trivial) (by omega) ent ?_
  rintro c ⟨hc1, hc2⟩
  try dsimp only [ca, na]
  refine Sq (Sq ?_)
  obtain ⟨z, hz⟩ : ∃ z, B[(c % 256).toNat]? = some z := ⟨_, List.getElem?_eq_getElem (by omega)⟩
  refine wp_ent (ent_take slK B hz) ?_
  refine r_ord [] _ [(0, 1), (1, 1), (2, 1), (3, 1), (4, 0), (5, 1), (6, 1), (7, 1), (8, 1), (9, 2)] fc_mixed (by kernel_rfl) (fun _ h => h) ?_
  refine Of rfl (po_move rfl) ?_
  refine Of rfl (po_move rfl) ?_
  refine Of rfl (po_nil rfl) ?_
  refine Of rfl (po_faddr rfl (by exact fc_field_148_0_0)) ?_
  refine Or rfl (po_load rfl (by exact fc_flat_3) (by rfl)) ?_
  refine Of rfl (po_rem' rfl rfl (by omega) (by omega)) ?_
  refine Of rfl (po_nil rfl) ?_
  refine Of rfl (po_faddr rfl (by exact fc_field_148_2_2)) ?_
  refine Of rfl (po_iaddr_arr rfl rfl (by exact fc_arr_146_256_145_2) (by first | omega | (simp <;> omega)) (by first | omega | (simp <;> omega))) ?_
  refine o_st rfl (st_call (co_fn rfl rfl) (bucket_empty b c l B _ z hz) (by infer_instance) rfl rfl rfl ?_)
  rintro v17 _ ⟨rfl, rfl⟩
  try dsimp only [ca, na]
  refine ⟨fun _ => (by first | exact fun _ h => h | exact ent), ?_⟩
  refine o_nil ?_
  refine Aw ?_
  refine Rc rfl ?_ ?_
  ·skip
   intro he
   have hck : c < k := by rcases Int.lt_or_eq_of_le hc2 with e | e; exact e; subst e; rw [hz] at hx; cases hx; exact absurd he hxg
   refine Sk (Aw (Bk (Rg ?_)))
   refine rp 2 rfl ?_
   refine Wp (po_faddr rfl (by exact fc_field_148_0_0)) ?_
   refine Wp (po_load rfl (by exact fc_flat_3) (by rfl)) ?_
   refine Wp (po_add' rfl rfl (by omega) (by omega)) ?_
   refine rp 1 rfl ?_
   refine Wp (po_faddr rfl (by exact fc_field_148_0_0)) ?_
   refine Ws (so_store1 rfl rfl (by exact fc_flat_3) (s := ⟨(rfl : ringL (c + 1) l B = (ringL c l B).set 0 (.int .i64 (c + 1)))⟩) rfl) ?_
   refine Sn (Bn ?_)
   refine at_ent (ent_put slK B (i := (c % 256).toNat) z (by omega)) ?_
   rw [set_same hz]
   exact at_again (c + 1) (trivial) (And.intro rfl (trivial)) (by omega) (by omega) ent
  ·skip
   intro he
   refine Ex' (Ax (Ax (Bh (Aw (Sq ?_)))))
   refine wp_ent (ent_put slK B (i := (c % 256).toNat) z (by omega)) ?_
   rw [set_same hz]
   have hck : c = k := by rcases Int.lt_or_eq_of_le hc2 with e | e; exact absurd (hf2 c hc1 e z hz) he; exact e
   subst hck
   refine Rg ?_
   refine rp 2 rfl ?_
   refine Wp (po_faddr rfl (by exact fc_field_148_1_1)) ?_
   refine Wp (po_load rfl (by exact fc_flat_3) (by rfl)) ?_
   refine Wp (po_sub' rfl rfl (by omega) (by omega)) ?_
   refine rp 1 rfl ?_
   refine Wp (po_faddr rfl (by exact fc_field_148_1_1)) ?_
   refine Ws (so_store1 rfl rfl (by exact fc_flat_3) (s := ⟨(rfl : ringL c (l - 1) B = (ringL c l B).set 1 (.int .i64 (l - 1)))⟩) rfl) ?_
   refine Sn (Aw (Sq ?_))
   refine wp_ent (ent_take slK B hx) ?_
   refine r_ord [] [At b 0 (.int .i64 c)] [(0, 1), (1, 1), (2, 1), (3, 0), (4, 1), (5, 1), (6, 1), (7, 1), (8, 0), (9, 1), (10, 1), (11, 1), (12, 1), (13, 2), (14, 1), (15, 1), (16, 1)] fc_mixed (by kernel_rfl) ent ?_
   refine Of rfl (po_move rfl) ?_
   refine Of rfl (po_nil rfl) ?_
   refine Of rfl (po_faddr rfl (by exact fc_field_148_0_0)) ?_
   refine Or rfl (po_load_at (v := .int .i64 c) rfl (by exact fc_flat_3)) ?_
   refine Of rfl (po_move rfl) ?_
   refine Of rfl (po_move rfl) ?_
   refine Of rfl (po_nil rfl) ?_
   refine Of rfl (po_faddr rfl (by exact fc_field_148_0_0)) ?_
   refine Or rfl (po_load_at (v := .int .i64 c) rfl (by exact fc_flat_3)) ?_
   refine Of rfl (po_rem' rfl rfl (by omega) (by omega)) ?_
   refine Of rfl (po_nil rfl) ?_
   refine Of rfl (po_faddr rfl (by exact fc_field_148_2_2)) ?_
   refine Of rfl (po_iaddr_arr rfl rfl (by exact fc_arr_146_256_145_2) (by first | omega | (simp <;> omega)) (by first | omega | (simp <;> omega))) ?_
   refine o_st rfl (st_call (co_fn rfl rfl) (bucket_pop b c (l - 1) B _ x hx hxm.1 hxm.2.1 (by omega)) (by infer_instance) rfl rfl rfl ?_)
   rintro v45 _ ⟨y, it, rfl, hq, hyl, hyg, rfl⟩
   try dsimp only [ca, na]
   refine ⟨fun _ => (by first | exact fun _ h => h | exact ent), ?_⟩
   refine Of rfl (po_assign rfl) ?_
   refine Of rfl (po_assign rfl) ?_
   refine Of rfl (po_assign rfl) ?_
   refine o_nil ?_
   refine Aw (Rt ?_)
   refine at_ent (ent_put slK B (i := (c % 256).toNat) y (by omega)) ?_
   refine at_ret3 rfl (rv_tmp rfl) (rv_tmp rfl) (rv_tmp rfl) ⟨_, ⟨x, y, it, rfl, hx, hq, hyl, hyg, rfl⟩, ?_⟩
   try dsimp only [ca, na]
   exact ent

abbrev noB : List Bkt := List.replicate 256 ⟨.slice none 0 0, [], 0⟩
theorem ring_zero (a : Int) : fillL ([.int .i64 0, .int .i64 0] ++ (List.replicate 256 [.slice none 0 0, .int .i64 0]).flatten) [(0, [.int .i64 a])] = ringL a 0 noB := by
  show _ :: _ :: _ = _ :: _ :: _
  congr 2
theorem noB_sat : ∀ {L : List HP} (h : Frag), Sat L h → Sat (All (noB.map slK) :: L) h := by
  have : ∀ (n : Nat) (L : List HP) (h : Frag), Sat L h → Sat (All ((List.replicate n (⟨.slice none 0 0, [], 0⟩ : Bkt)).map slK) :: L) h := by
    intro n
    induction n with
    | zero => intro L h s; exact all_nil.2 s
    | succ n ih => intro L h s; rw [List.replicate_succ, List.map_cons]; exact all_cons.2 ((Has.nilSl eI _).out h (ih L h s))
  intro L h s; exact this 256 L h s
theorem ring_New (a : Int) (h0 : 0 ≤ a) (h1 : a ≤ 1099511627776) : Spec PP 83 #[.int .i64 a] [] (fun v M => ∃ b, v = ringP b ∧ M = [ringB b a 0 noB, All (noB.map slK)]) := by
  refine spec_of (Go.Proofs.Tryz.func83) rfl rfl rfl (by exact fc_enters_83) ?_
  intro g F
  try dsimp only [ca, na]
  refine Sq (Rg ?_)
  refine rp 1 rfl ?_
  refine Sn (Aw (Sq (Sq (Rg ?_))))
  refine rp 1 rfl ?_
  refine Wp (po_lt rfl rfl) ?_
  refine Wp (po_bf (po_move rfl) (decide_eq_false (by omega))) ?_
  refine rp 1 rfl ?_
  refine Wp (po_gt rfl rfl) ?_
  refine rp 1 rfl ?_
  refine Sn (Aw ?_)
  first | refine r_dec_f rfl (by omega) ?_ | refine r_nd_f rfl (by omega) ?_ | refine r_cond_f rfl (by omega) ?_
  refine Sk (Aw (Sq (Rg ?_)))
  refine rp 1 rfl ?_
  refine Wp (po_build (vs := [(0, .int .i64 a)]) (places := [(0, 0, 1)]) rfl (by exact fc_zero_148) (by exact fc_places_148_0) (by exact fc_info_148) rfl) ?_
  refine Wx (xo_box rfl rfl) ?_
  rintro _ _ ⟨b11, rfl, rfl⟩
  refine rp 1 rfl ?_
  refine Sn (Aw (Rt ?_))
  rw [show laidL [(0, 0, 1)] [(0, Value.int .i64 a)] = [(0, [.int .i64 a])] from rfl, ring_zero]
  refine at_ent noB_sat ?_
  refine at_ret1 rfl (rv_tmp rfl) ⟨_, ⟨_, rfl, rfl⟩, ?_⟩
  try dsimp only [ca, na]
  exact ent
end Hd
end
section
namespace Hd

theorem xy_div {w x y : Int} (h0 : 0 ≤ x) (h1 : x < w) : (y * w + x) / w = y ∧ (y * w + x) % w = x := by
  have hw : w ≠ 0 := by omega
  constructor
  · rw [Int.add_comm, Int.add_mul_ediv_right _ _ hw, Int.ediv_eq_zero_of_lt h0 h1]; omega
  · rw [Int.add_comm, Int.add_mul_emod_self_right, Int.emod_eq_of_lt h0 h1]
theorem mul_lt {a b c d : Int} (h0 : 0 ≤ a) (h1 : a < c) (h2 : 0 ≤ b) (h3 : b < d) : 0 ≤ b * c + a ∧ b * c + a < c * d := by
  have : (b + 1) * c ≤ d * c := Int.mul_le_mul_of_nonneg_right (by omega) (by omega)
  have e1 : (b + 1) * c = b * c + c := by rw [Int.add_mul, Int.one_mul]
  have e2 : d * c = c * d := Int.mul_comm _ _
  have := Int.mul_nonneg h2 (show 0 ≤ c by omega)
  omega
theorem mk_is {w h x y : Int} (m : May w h) (hx : 0 ≤ x ∧ x < w) (hy : 0 ≤ y ∧ y < h) : IsC w h (y * w + x) := ⟨m, mul_lt hx.1 hx.2 hy.1 hy.2⟩
/-- the sector of a cell -/
theorem sector_lt {w h c : Int} (k : IsC w h c) : IsS w h (sectorN w h c) ∧ sectorN w h c % acrN w = c % w / 16 ∧ sectorN w h c / acrN w = c / w / 16 := by
  have hxy := isc_xy k
  have e : sectorN w h c = c / w / 16 * acrN w + c % w / 16 := by rw [sectorN, if_pos k]
  have hx : 0 ≤ c % w / 16 ∧ c % w / 16 < acrN w := by unfold acrN; omega
  have hy : 0 ≤ c / w / 16 ∧ c / w / 16 < acrN h := by unfold acrN; omega
  have hd := xy_div (y := c / w / 16) hx.1 hx.2
  have hl := mul_lt hx.1 hx.2 hy.1 hy.2
  rw [e]
  exact ⟨⟨k.1, hl⟩, hd.2, hd.1⟩
/-- the size of a cell's sector -/
theorem size_of {w h c : Int} (k : IsC w h c) : (sizeN w h (sectorN w h c)).1 = min 16 (w - c % w / 16 * 16) ∧ (sizeN w h (sectorN w h c)).2 = min 16 (h - c / w / 16 * 16) := by
  have hs := sector_lt k
  rw [sizeN, if_pos hs.1, hs.2.1, hs.2.2]
  exact ⟨rfl, rfl⟩
theorem local_lt {w h c : Int} (k : IsC w h c) : 0 ≤ localN w h c ∧ localN w h c < (sizeN w h (sectorN w h c)).1 * (sizeN w h (sectorN w h c)).2 := by
  have hxy := isc_xy k
  have hz := size_of k
  rw [localN, if_pos k]
  refine mul_lt (by omega) ?_ (by omega) ?_
  · rw [hz.1]; omega
  · rw [hz.2]; omega
theorem local_xy {w h c : Int} (k : IsC w h c) : localN w h c % (sizeN w h (sectorN w h c)).1 = c % w % 16 ∧ localN w h c / (sizeN w h (sectorN w h c)).1 = c / w % 16 := by
  have hxy := isc_xy k
  have hz := size_of k
  rw [localN, if_pos k]
  have := xy_div (w := (sizeN w h (sectorN w h c)).1) (x := c % w % 16) (y := c / w % 16) (by omega) (by rw [hz.1]; omega)
  exact ⟨this.2, this.1⟩
theorem global_local {w h c : Int} (k : IsC w h c) : globalN w h (sectorN w h c) (localN w h c) = c := by
  have hs := sector_lt k
  have hl := local_lt k
  have hxy := isc_xy k
  have hlxy := local_xy k
  rw [globalN, if_pos ⟨hs.1, hl⟩, hlxy.1, hlxy.2, hs.2.1, hs.2.2]
  have e1 : c / w / 16 * 16 + c / w % 16 = c / w := by omega
  have e2 : c % w / 16 * 16 + c % w % 16 = c % w := by omega
  rw [e1, e2]; omega
theorem global_is {w h s l : Int} (k : IsS w h s) (h0 : 0 ≤ l) (h1 : l < (sizeN w h s).1 * (sizeN w h s).2) :
    IsC w h (globalN w h s l) ∧ globalN w h s l % w = s % acrN w * 16 + l % (sizeN w h s).1 ∧ globalN w h s l / w = s / acrN w * 16 + l / (sizeN w h s).1 := by
  have hg := global_xy k h0 h1
  rw [globalN, if_pos ⟨k, h0, h1⟩]
  have hd := xy_div (w := w) (x := s % acrN w * 16 + l % (sizeN w h s).1) (y := s / acrN w * 16 + l / (sizeN w h s).1) hg.1.1 hg.1.2
  exact ⟨mk_is k.1 hg.1 hg.2.1, hd.2, hd.1⟩
theorem sector_global {w h s l : Int} (k : IsS w h s) (h0 : 0 ≤ l) (h1 : l < (sizeN w h s).1 * (sizeN w h s).2) : sectorN w h (globalN w h s l) = s := by
  obtain ⟨hc, hx, hy⟩ := global_is k h0 h1
  have hg := global_xy k h0 h1
  have hz := size_le w h s
  have hp := acr_pos k.1
  rw [sectorN, if_pos hc, hx, hy]
  have e1 : (s % acrN w * 16 + l % (sizeN w h s).1) / 16 = s % acrN w := by omega
  have e2 : (s / acrN w * 16 + l / (sizeN w h s).1) / 16 = s / acrN w := by omega
  rw [e1, e2, Int.mul_comm]; exact Int.mul_ediv_add_emod s (acrN w)
theorem local_global {w h s l : Int} (k : IsS w h s) (h0 : 0 ≤ l) (h1 : l < (sizeN w h s).1 * (sizeN w h s).2) : localN w h (globalN w h s l) = l := by
  obtain ⟨hc, hx, hy⟩ := global_is k h0 h1
  have hg := global_xy k h0 h1
  have hz := size_le w h s
  rw [localN, if_pos hc, sector_global k h0 h1, hx, hy]
  have e1 : (s % acrN w * 16 + l % (sizeN w h s).1) % 16 = l % (sizeN w h s).1 := by omega
  have e2 : (s / acrN w * 16 + l / (sizeN w h s).1) % 16 = l / (sizeN w h s).1 := by omega
  rw [e1, e2, Int.mul_comm]; exact Int.mul_ediv_add_emod l _
/-- the neighbour's coordinates -/
def dx (s : Int) : Int := if s = 1 then 1 else if s = 3 then -1 else 0
def dy (s : Int) : Int := if s = 0 then -1 else if s = 2 then 1 else 0
theorem step_eq {w h c s : Int} (k : IsC w h c) (h0 : 0 ≤ s) (h1 : s ≤ 4) : stepN w h c s = cellN w h (c % w + dx s) (c / w + dy s) := by
  rw [stepN, if_pos k]
  have : s = 0 ∨ s = 1 ∨ s = 2 ∨ s = 3 ∨ s = 4 := by omega
  rcases this with h | h | h | h | h <;> subst h <;> simp [dx, dy]
  · congr 1
  · congr 1
theorem step_none {w h c s : Int} (k : ¬ (IsC w h c ∧ 0 ≤ s ∧ s ≤ 4)) : stepN w h c s = -1 := by
  unfold stepN
  split
  · rename_i kc
    rw [if_neg (by omega), if_neg (by omega), if_neg (by omega), if_neg (by omega), if_neg (by omega)]
  · rfl
theorem cell_is {w h x y : Int} (k : 0 ≤ cellN w h x y) : (May w h ∧ (0 ≤ x ∧ x < w) ∧ (0 ≤ y ∧ y < h)) ∧ IsC w h (cellN w h x y) ∧ cellN w h x y % w = x ∧ cellN w h x y / w = y := by
  unfold cellN at *
  split at k
  · rename_i hc
    rw [if_pos hc]
    have := xy_div (w := w) (x := x) (y := y) hc.2.1.1 hc.2.1.2
    exact ⟨hc, mk_is hc.1 hc.2.1 hc.2.2, this.2, this.1⟩
  · omega
end Hd
end
section
namespace Hd
abbrev INF : Int := 1099511627776
/-- a number of a list, at a place that is one -/
def gAt (c : List Int) (i : Int) : Int := c.getD i.toNat 0
theorem gAt_get {c : List Int} {i : Int} (h : i.toNat < c.length) : gAt c i = c[i.toNat] := by simp [gAt, h]
theorem gAt_nat {c : List Int} {i : Nat} (h : i < c.length) : gAt c (i : Int) = c[i] := by simp [gAt, h]
theorem gAt_set {c : List Int} {i j : Int} {v : Int} (hi : 0 ≤ i) (hil : i < c.length) (hj : 0 ≤ j) : gAt (c.set i.toNat v) j = if j = i then v else gAt c j := by
  unfold gAt
  rw [List.getD_eq_getElem?_getD, List.getD_eq_getElem?_getD, List.getElem?_set]
  by_cases e : j = i
  · subst e; rw [if_pos rfl, if_pos rfl, if_pos (by omega)]; rfl
  · rw [if_neg (by omega), if_neg e]
/-- an open cell -/
def Opn (C : List Int) (c : Int) : Prop := 0 ≤ c ∧ c < C.length ∧ gAt C c ≠ 255
instance (C : List Int) (c : Int) : Decidable (Opn C c) := by unfold Opn; infer_instance
/-- m is an open cell beside c -/
def Nb (w h : Int) (C : List Int) (c m : Int) : Prop := Opn C m ∧ ∃ s : Int, (0 ≤ s ∧ s < 4) ∧ stepN w h c s = m

/-- d tells of each cell how far it is, by sources and by its neighbours -/
structure IsDist (w h : Int) (C : List Int) (src : Int → Int → Prop) (d : Int → Int) : Prop where
  wall : ∀ c, ¬ Opn C c → d c = INF
  rng : ∀ c, d c = INF ∨ (0 ≤ d c ∧ d c < INF)
  low : ∀ c k, src c k → d c ≤ k
  rel : ∀ c m, Opn C c → Nb w h C c m → d m < INF → d c ≤ d m + gAt C m
  tight : ∀ c, d c = INF ∨ src c (d c) ∨ ∃ m, Nb w h C c m ∧ d m < INF ∧ d c = d m + gAt C m

theorem isDist_le {w h : Int} {C : List Int} {src : Int → Int → Prop} {d d' : Int → Int} (hC : ∀ x ∈ C, 1 ≤ x) (h1 : IsDist w h C src d) (h2 : IsDist w h C src d') : ∀ (n : Nat) (c : Int), d c < INF → d c ≤ n → d' c ≤ d c := by
  intro n
  induction n with
  | zero =>
    intro c hlt hle
    rcases h1.tight c with e | e | ⟨m, hm, hml, e⟩
    · omega
    · exact h2.low c _ e
    · have := h1.rng m
      have hc : 1 ≤ gAt C m := by
        have hl : m.toNat < C.length := by have := hm.1; unfold Opn at this; omega
        rw [gAt_get hl]; exact hC _ (List.getElem_mem hl)
      omega
  | succ n ih =>
    intro c hlt hle
    rcases h1.tight c with e | e | ⟨m, hm, hml, e⟩
    · omega
    · exact h2.low c _ e
    · have hc : 1 ≤ gAt C m := by
        have hl : m.toNat < C.length := by have := hm.1; unfold Opn at this; omega
        rw [gAt_get hl]; exact hC _ (List.getElem_mem hl)
      have := ih m hml (by omega)
      have ho : Opn C c := by
        apply Classical.byContradiction
        intro hn
        have := h1.wall c hn
        omega
      have := h2.rel c m ho hm (by omega)
      omega
theorem isDist_uniq {w h : Int} {C : List Int} {src : Int → Int → Prop} {d d' : Int → Int} (hC : ∀ x ∈ C, 1 ≤ x) (h1 : IsDist w h C src d) (h2 : IsDist w h C src d') : ∀ c, d c = d' c := by
  intro c
  rcases h1.rng c with e | e
  · rcases h2.rng c with f | f
    · omega
    · have := isDist_le hC h2 h1 (d' c).toNat c (by omega) (by omega); omega
  · have a := isDist_le hC h1 h2 (d c).toNat c (by omega) (by omega)
    have b := isDist_le hC h2 h1 (d' c).toNat c (by omega) (by omega)
    omega
/-- the same sources -/
theorem IsDist.congr {w h : Int} {C : List Int} {src src' : Int → Int → Prop} {d : Int → Int} (h1 : IsDist w h C src d) (e : ∀ c k, src c k ↔ src' c k) : IsDist w h C src' d :=
  ⟨h1.wall, h1.rng, fun c k s => h1.low c k ((e c k).2 s), h1.rel, fun c => by
    rcases h1.tight c with a | a | a
    · exact .inl a
    · exact .inr (.inl ((e c _).1 a))
    · exact .inr (.inr a)⟩
end Hd
end
section
namespace Hd
structure Tile where
  w : Int
  h : Int
  c : List Int
deriving Inhabited
def Sized (n : Int) : Prop := 1 ≤ n ∧ n ≤ 16
instance (n : Int) : Decidable (Sized n) := by unfold Sized; infer_instance
/-- 2.1 -/
def MayT (t : Tile) : Prop := Sized t.w ∧ Sized t.h ∧ (t.c.length : Int) = t.w * t.h ∧ (0 : Int) ∉ t.c
instance (t : Tile) : Decidable (MayT t) := by unfold MayT; infer_instance
/-- a side that leads over the edge, or nowhere -/
def OutS (w h cell side : Int) : Prop := if side = 0 then cell / w = 0 else if side = 1 then cell % w = w - 1 else if side = 2 then cell / w = h - 1 else if side = 3 then cell % w = 0 else side = 4
instance (w h c s : Int) : Decidable (OutS w h c s) := by unfold OutS; infer_instance
/-- the byte at a place -/
abbrev cAt (c : List Int) (i : Int) : Int := gAt c i
theorem cAt_get {c : List Int} {i : Int} (h : i.toNat < c.length) : cAt c i = c[i.toNat] := gAt_get h
/-- 8.1, of one seed -/
def MaySd (t : Tile) (s : Seed) : Prop := 0 ≤ s.cell ∧ s.cell < t.c.length ∧ cAt t.c s.cell ≠ 255 ∧ 0 ≤ s.key ∧ s.key ≤ 1073741824 ∧ OutS t.w t.h s.cell s.side
instance (t : Tile) (s : Seed) : Decidable (MaySd t s) := by unfold MaySd; infer_instance
def MayS (t : Tile) (l : List Seed) : Prop := MayT t ∧ ∀ s ∈ l, MaySd t s
instance (t : Tile) (l : List Seed) : Decidable (MayS t l) := by unfold MayS; infer_instance
/-- all are bytes -/
def Bytes (c : List Int) : Prop := ∀ x ∈ c, 0 ≤ x ∧ x ≤ 255
theorem Bytes.get {c : List Int} (h : Bytes c) {i : Nat} (hi : i < c.length) : 0 ≤ c[i] ∧ c[i] ≤ 255 := h _ (List.getElem_mem hi)
end Hd
end
section
namespace Hd
set_option maxRecDepth 100000
open Go

theorem slices_isNaN (x : Int) : Spec PP 161 #[.int .i64 x] [] (fun v M => v = .bool false ∧ M = []) := by
  refine spec_of (Go.Proofs.Tryz.func161) rfl rfl rfl (by exact fc_enters_161) ?_
  intro g F
  try dsimp only [ca, na]
  refine Sq (Rg ?_)
  refine rp 1 rfl ?_
  refine Sn (Aw (Sq (Rg ?_)))
  refine rp 2 rfl ?_
  refine Wp (po_ne rfl rfl) ?_
  refine rp 1 rfl ?_
  refine Sn (Aw (Rt ?_))
  refine at_ret1 rfl (rv_tmp rfl) ⟨_, ⟨by simp, rfl⟩, ?_⟩
  try dsimp only [ca, na]
  exact ent

/-- strictly rising -/
def Rising (xs : List Int) : Prop := ∀ i j, (hi : i < xs.length) → (hj : j < xs.length) → i < j → xs[i] < xs[j]

theorem rise_lt {xs : List Int} {k m : Nat} {y : Int} (hr : Rising xs) {hm' : m < xs.length} (hy : xs[m] < y) (hk : k < xs.length) (hm : m < xs.length) (h : k ≤ m) : xs[k] < y := by
  rcases Nat.lt_or_eq_of_le h with h | h
  · exact Int.lt_trans (hr k m hk hm h) hy
  · subst h; exact hy
theorem rise_ge {xs : List Int} {k m : Nat} {y : Int} (hr : Rising xs) {hm' : m < xs.length} (hy : y ≤ xs[m]) (hk : k < xs.length) (hm : m < xs.length) (h : m ≤ k) : y ≤ xs[k] := by
  rcases Nat.lt_or_eq_of_le h with h | h
  · exact Int.le_of_lt (Int.lt_of_le_of_lt hy (hr m k hm hk h))
  · subst h; exact hy
theorem search_no {xs : List Int} {i : Nat} {y : Int} (hlo : ∀ k, (h : k < xs.length) → k < i → xs[k] < y) (hhi : ∀ k, (h : k < xs.length) → i ≤ k → y ≤ xs[k]) {hi : i < xs.length} (heq : ¬ xs[i] = y) (hr : Rising xs) : ¬ y ∈ xs := by
  intro h
  obtain ⟨k, hk, e⟩ := List.getElem_of_mem h
  rcases Nat.lt_trichotomy k i with h | h | h
  · have := hlo k hk h; omega
  · subst h; exact heq e
  · have := hr i k hi hk h; have := hhi i hi (Nat.le_refl _); omega
theorem search_no' {xs : List Int} {i : Nat} {y : Int} (hlo : ∀ k, (h : k < xs.length) → k < i → xs[k] < y) (h : xs.length ≤ i) : ¬ y ∈ xs := by
  intro h
  obtain ⟨k, hk, e⟩ := List.getElem_of_mem h
  have := hlo k hk (by omega); omega

theorem bin_search (s : Value) (xs : List Int) (y : Int) (hl : xs.length ≤ 2^30) (hr : Rising xs) : Spec PP 157 #[s, .int .i64 y] [Sl eI s xs]
    (fun v M => (∃ (r : Nat), v = .tuple #[.int .i64 r, .bool (decide (y ∈ xs))] ∧ (y ∈ xs → xs[r]? = some y)) ∧ M = [Sl eI s xs]) := by
  refine spec_of (Go.Proofs.Tryz.func157) rfl rfl rfl (by exact fc_enters_157) ?_
  intro g F
  try dsimp only [ca, na]
  refine Sq (Rg ?_)
  refine rp 2 rfl ?_
  refine Sn (Aw (Sq (Rg ?_)))
  refine rp 1 rfl ?_
  refine Wp (po_len rfl (by exact fc_slice_35_3_1)) ?_
  refine rp 1 rfl ?_
  refine Sn (Aw (Sq (Rg ?_)))
  refine rp 3 rfl ?_
  refine Sn (Aw (Sq (Bk ?_)))
  refine r_loop (S := Nat × Nat) (fun ⟨i, j⟩ => [(7, .int .i64 i), (8, .int .i64 j)]) [(0, _), (1, _), (6, _)] (fun ⟨i, j⟩ => [Sl eI s xs, F]) (fun ⟨i, j⟩ => i ≤ j ∧ j ≤ xs.length ∧ (∀ k, (h : k < xs.length) → k < i → xs[k] < y) ∧ (∀ k, (h : k < xs.length) → j ≤ k → y ≤ xs[k])) (fun ⟨i, j⟩ => j - i) ((0, xs.length)) (And.intro rfl (And.intro rfl (And.intro rfl (trivial)))) (And.intro rfl (And.intro rfl (trivial))) (⟨by omega, by omega, fun k _ h => by omega, fun k _ h => by omega⟩) ent ?_
  rintro ⟨i, j⟩ ⟨hij, hj, hlo, hhi⟩
  try dsimp only [ca, na]
  refine Sq (Sq (Rg ?_))
  refine rp 2 rfl ?_
  refine Wp (po_lt rfl rfl) ?_
  refine Sn (Aw ?_)
  refine Rc rfl ?_ ?_
  ·skip
   intro hlt
   refine Sk (Aw (Bk (Sq (Rg ?_))))
   refine rp 2 rfl ?_
   refine Wp (po_add' rfl rfl (by omega) (by omega)) ?_
   refine Wp (po_conv_w rfl (by exact fc_int_3_i64) (by exact fc_int_139_u64) (wrap_u64 _ (by omega) (by omega))) ?_
   refine Wp (po_shr (m := 1) rfl rfl (by decide)) ?_
   refine Wp (po_conv_w rfl (by exact fc_int_139_u64) (by exact fc_int_3_i64) (wrap_i64 _ (by omega) (by omega))) ?_
   refine rp 1 rfl ?_
   refine Sn (Aw (Sq ?_))
   have hm : ((i : Int) + j) / 2 ^ 1 = ((i + j) / 2 : Nat) := by omega
   have hlen : (i + j) / 2 < xs.length := by omega
   rw [hm]
   refine Rg ?_
   refine rp 2 rfl ?_
   refine Wp (po_iaddr rfl rfl (by exact fc_slice_35_3_1) (by first | omega | (simp <;> omega)) (by first | omega | (simp <;> omega))) ?_
   refine Wp (po_load_sl rfl (List.getElem?_eq_getElem (by first | omega | (simp <;> omega))) (by exact fc_flat_3) (by rfl)) ?_
   refine rp 1 rfl ?_
   refine Wc (co_fn rfl rfl) (cmp_Less _ y) ?_
   rintro v27 _ ⟨rfl, rfl⟩
   try dsimp only [ca, na]
   refine Sn (Aw ?_)
   refine Rc rfl ?_ ?_
   ·skip
    intro hy
    refine Rg ?_
    refine rp 1 rfl ?_
    refine Wp (po_add' rfl rfl (by omega) (by omega)) ?_
    refine rp 1 rfl ?_
    refine Sn (Bn ?_)
    simp only [Int.toNat_natCast] at hy
    exact at_again (((i + j) / 2 + 1, j)) (And.intro rfl (And.intro rfl (trivial))) (And.intro rfl (And.intro rfl (And.intro rfl (trivial)))) (⟨by omega, by omega, fun k hk h => rise_lt hr hy hk hlen (by omega), hhi⟩) (by omega) ent
   ·skip
    intro hy
    refine Rg ?_
    refine rp 2 rfl ?_
    refine Sn (Bn ?_)
    simp only [Int.toNat_natCast] at hy
    exact at_again ((i, (i + j) / 2)) (And.intro rfl (And.intro rfl (trivial))) (And.intro rfl (And.intro rfl (And.intro rfl (trivial)))) (⟨by omega, by omega, hlo, fun k hk h => rise_ge hr (by omega) hk hlen (by omega)⟩) (by omega) ent
  ·skip
   intro hlt
   refine Ex' (Ax (Ax (Bh (Aw (Sq (Rg ?_))))))
   refine rp 3 rfl ?_
   refine Wp (po_lt rfl rfl) ?_
   by_cases hin : (i : Int) < xs.length
   ·skip
    refine ws (st_po (po_bt (po_move rfl) (decide_eq_true hin)) rfl rfl rfl ?_)
    refine rp 2 rfl ?_
    refine Wp (po_iaddr rfl rfl (by exact fc_slice_35_3_1) (by first | omega | (simp <;> omega)) (by first | omega | (simp <;> omega))) ?_
    refine Wp (po_load_sl rfl (List.getElem?_eq_getElem (by first | omega | (simp <;> omega))) (by exact fc_flat_3) (by rfl)) ?_
    refine rp 1 rfl ?_
    refine Wp (po_eq rfl rfl) ?_
    by_cases heq : xs[i]'(by omega) = y
    ·skip
     refine ws (st_po (po_bt (po_move rfl) (decide_eq_true heq)) rfl rfl rfl ?_)
     refine rp 13 rfl ?_
     refine Sn (Aw (Rt ?_))
     refine at_ret2 rfl (rv_tmp rfl) (rv_tmp rfl) ⟨_, ⟨⟨i, by rw [decide_eq_true (by rw [← heq]; exact List.getElem_mem _)], fun _ => by rw [← heq]; exact List.getElem?_eq_getElem (by omega)⟩, rfl⟩, ?_⟩
     try dsimp only [ca, na]
     exact ent
    ·skip
     refine ws (st_po (po_bf (po_move rfl) (decide_eq_false heq)) rfl rfl rfl ?_)
     refine rp 2 rfl ?_
     refine Wp (po_iaddr rfl rfl (by exact fc_slice_35_3_1) (by first | omega | (simp <;> omega)) (by first | omega | (simp <;> omega))) ?_
     refine Wp (po_load_sl rfl (List.getElem?_eq_getElem (by first | omega | (simp <;> omega))) (by exact fc_flat_3) (by rfl)) ?_
     refine Wc (co_fn rfl rfl) (slices_isNaN _) ?_
     rintro v47 _ ⟨rfl, rfl⟩
     try dsimp only [ca, na]
     refine Wp (po_bf (po_move rfl) (rfl)) ?_
     refine rp 7 rfl ?_
     refine Sn (Aw (Rt ?_))
     refine at_ret2 rfl (rv_tmp rfl) (rv_tmp rfl) ⟨_, ⟨⟨i, by rw [decide_eq_false (search_no hlo (fun k hk h => hhi k hk (by omega)) heq hr)], fun h => absurd h (search_no hlo (fun k hk h => hhi k hk (by omega)) heq hr)⟩, rfl⟩, ?_⟩
     try dsimp only [ca, na]
     exact ent
   ·skip
    refine ws (st_po (po_bf (po_move rfl) (decide_eq_false hin)) rfl rfl rfl ?_)
    refine rp 20 rfl ?_
    refine Sn (Aw (Rt ?_))
    refine at_ret2 rfl (rv_tmp rfl) (rv_tmp rfl) ⟨_, ⟨⟨i, by rw [decide_eq_false (search_no' hlo (by omega))], fun h => absurd h (search_no' hlo (by omega))⟩, rfl⟩, ?_⟩
    try dsimp only [ca, na]
    exact ent
end Hd
end
section
namespace Hd
set_option maxRecDepth 100000
open Go
abbrev tileV (tc : Value) (t : Tile) : Value := .agg #[.int .i64 t.w, .int .i64 t.h, tc]

theorem tile_sized (n : Int) : Spec PP 135 #[.int .i64 n] [] (fun v M => v = .bool (decide (Sized n)) ∧ M = []) := by
  refine spec_of (Go.Proofs.Tryz.func135) rfl rfl rfl (by exact fc_enters_135) ?_
  intro g F
  try dsimp only [ca, na]
  refine Sq (Rg ?_)
  refine rp 1 rfl ?_
  refine Sn (Aw (Sq (Rg ?_)))
  refine rp 1 rfl ?_
  refine Wp (po_ge rfl rfl) ?_
  by_cases h1 : 1 ≤ n
  ·skip
   refine ws (st_po (po_bt (po_move rfl) (decide_eq_true h1)) rfl rfl rfl ?_)
   refine rp 1 rfl ?_
   refine Wp (po_le rfl rfl) ?_
   refine rp 2 rfl ?_
   refine Sn (Aw (Rt ?_))
   refine at_ret1 rfl (rv_tmp rfl) ⟨_, ⟨by simp [Sized, h1], rfl⟩, ?_⟩
   try dsimp only [ca, na]
   exact ent
  ·skip
   refine ws (st_po (po_bf (po_move rfl) (decide_eq_false h1)) rfl rfl rfl ?_)
   refine rp 4 rfl ?_
   refine Sn (Aw (Rt ?_))
   refine at_ret1 rfl (rv_tmp rfl) ⟨_, ⟨by simp [Sized, h1], rfl⟩, ?_⟩
   try dsimp only [ca, na]
   exact ent

theorem tile_May (tc : Value) (t : Tile) (hl : t.c.length ≤ 2^30) : Spec PP 105 #[tileV tc t] [Sl eB tc t.c] (fun v M => v = .bool (decide (MayT t)) ∧ M = [Sl eB tc t.c]) := by
  refine spec_of (Go.Proofs.Tryz.func105) rfl rfl rfl (by exact fc_enters_105) ?_
  intro g F
  try dsimp only [ca, na]
  refine Sq (Rg ?_)
  refine Wx (xo_box rfl rfl) ?_
  rintro _ _ ⟨b1, rfl, rfl⟩
  refine rp 1 rfl ?_
  refine Sn (Aw (Sq (Rg ?_)))
  refine Wp (po_faddr rfl (by exact fc_field_41_0_0)) ?_
  refine Wp (po_load rfl (by exact fc_flat_3) (by rfl)) ?_
  refine Wc (co_fn rfl rfl) (tile_sized t.w) ?_
  rintro v5 _ ⟨rfl, rfl⟩
  try dsimp only [ca, na]
  by_cases h1 : Sized t.w
  ·skip
   refine ws (st_po (po_bt (po_move rfl) (decide_eq_true h1)) rfl rfl rfl ?_)
   refine Wp (po_faddr rfl (by exact fc_field_41_1_1)) ?_
   refine Wp (po_load rfl (by exact fc_flat_3) (by rfl)) ?_
   refine Wc (co_fn rfl rfl) (tile_sized t.h) ?_
   rintro v9 _ ⟨rfl, rfl⟩
   try dsimp only [ca, na]
   refine rp 1 rfl ?_
   by_cases h2 : Sized t.h
   ·skip
    refine ws (st_po (po_bt (po_move rfl) (decide_eq_true h2)) rfl rfl rfl ?_)
    have hb := mul_1k (a := t.w) (b := t.h) (by have := h1.1; omega) (by have := h1.2; omega) (by have := h2.1; omega) (by have := h2.2; omega)
    refine Wp (po_faddr rfl (by exact fc_field_41_2_2)) ?_
    refine Wp (po_load rfl (by exact fc_flat_22) (by rfl)) ?_
    refine Wp (po_len rfl (by exact fc_slice_22_5_1)) ?_
    refine Wp (po_faddr rfl (by exact fc_field_41_0_0)) ?_
    refine Wp (po_load rfl (by exact fc_flat_3) (by rfl)) ?_
    refine Wp (po_faddr rfl (by exact fc_field_41_1_1)) ?_
    refine Wp (po_load rfl (by exact fc_flat_3) (by rfl)) ?_
    refine Wp (po_mul' rfl rfl (by omega) (by omega)) ?_
    refine Wp (po_eq rfl rfl) ?_
    refine rp 1 rfl ?_
    by_cases h3 : (t.c.length : Int) = t.w * t.h
    ·skip
     refine ws (st_po (po_bt (po_move rfl) (decide_eq_true h3)) rfl rfl rfl ?_)
     refine Wp (po_faddr rfl (by exact fc_field_41_2_2)) ?_
     refine Wp (po_load rfl (by exact fc_flat_22) (by rfl)) ?_
     refine Wc (co_fn rfl rfl) (contains_B tc t.c 0 hl) ?_
     rintro v25 _ ⟨rfl, rfl⟩
     try dsimp only [ca, na]
     refine Wp (po_not rfl) ?_
     refine rp 2 rfl ?_
     refine Sn (Aw (Rt ?_))
     refine at_ret1 rfl (rv_tmp rfl) ⟨_, ⟨by simp [MayT, h1, h2, h3], rfl⟩, ?_⟩
     try dsimp only [ca, na]
     exact ent
    ·skip
     refine ws (st_po (po_bf (po_move rfl) (decide_eq_false h3)) rfl rfl rfl ?_)
     refine rp 6 rfl ?_
     refine Sn (Aw (Rt ?_))
     refine at_ret1 rfl (rv_tmp rfl) ⟨_, ⟨by simp [MayT, h1, h2, h3], rfl⟩, ?_⟩
     try dsimp only [ca, na]
     exact ent
   ·skip
    refine ws (st_po (po_bf (po_move rfl) (decide_eq_false h2)) rfl rfl rfl ?_)
    refine rp 17 rfl ?_
    refine Sn (Aw (Rt ?_))
    refine at_ret1 rfl (rv_tmp rfl) ⟨_, ⟨by simp [MayT, h1, h2], rfl⟩, ?_⟩
    try dsimp only [ca, na]
    exact ent
  ·skip
   refine ws (st_po (po_bf (po_move rfl) (decide_eq_false h1)) rfl rfl rfl ?_)
   refine rp 22 rfl ?_
   refine Sn (Aw (Rt ?_))
   refine at_ret1 rfl (rv_tmp rfl) ⟨_, ⟨by simp [MayT, h1], rfl⟩, ?_⟩
   try dsimp only [ca, na]
   exact ent

theorem tile_is (tc : Value) (t : Tile) (l : Int) (hl : t.c.length ≤ 2^30) : Spec PP 159 #[tileV tc t, .int .i64 l] [Sl eB tc t.c] (fun v M => v = .bool (decide (0 ≤ l ∧ l < t.c.length ∧ MayT t)) ∧ M = [Sl eB tc t.c]) := by
  refine spec_of (Go.Proofs.Tryz.func159) rfl rfl rfl (by exact fc_enters_159) ?_
  intro g F
  try dsimp only [ca, na]
  refine Sq (Rg ?_)
  refine Wx (xo_box rfl rfl) ?_
  rintro _ _ ⟨b2, rfl, rfl⟩
  refine rp 1 rfl ?_
  refine Sn (Aw (Sq (Rg ?_)))
  refine rp 1 rfl ?_
  refine Wp (po_ge rfl rfl) ?_
  by_cases h1 : 0 ≤ l
  ·skip
   refine ws (st_po (po_bt (po_move rfl) (decide_eq_true h1)) rfl rfl rfl ?_)
   refine rp 1 rfl ?_
   refine Wp (po_faddr rfl (by exact fc_field_41_2_2)) ?_
   refine Wp (po_load rfl (by exact fc_flat_22) (by rfl)) ?_
   refine Wp (po_len rfl (by exact fc_slice_22_5_1)) ?_
   refine Wp (po_lt rfl rfl) ?_
   refine rp 1 rfl ?_
   by_cases h2 : l < t.c.length
   ·skip
    refine ws (st_po (po_bt (po_move rfl) (decide_eq_true h2)) rfl rfl rfl ?_)
    refine Wp (po_loada rfl (by exact fc_agg_41_3) (by rfl)) ?_
    refine Wc (co_fn rfl rfl) (tile_May tc t hl) ?_
    rintro v16 _ ⟨rfl, rfl⟩
    try dsimp only [ca, na]
    refine rp 2 rfl ?_
    refine Sn (Aw (Rt ?_))
    refine at_ret1 rfl (rv_tmp rfl) ⟨_, ⟨by simp [h1, h2], rfl⟩, ?_⟩
    try dsimp only [ca, na]
    exact ent
   ·skip
    refine ws (st_po (po_bf (po_move rfl) (decide_eq_false h2)) rfl rfl rfl ?_)
    refine rp 4 rfl ?_
    refine Sn (Aw (Rt ?_))
    refine at_ret1 rfl (rv_tmp rfl) ⟨_, ⟨by simp [h1, h2], rfl⟩, ?_⟩
    try dsimp only [ca, na]
    exact ent
  ·skip
   refine ws (st_po (po_bf (po_move rfl) (decide_eq_false h1)) rfl rfl rfl ?_)
   refine rp 11 rfl ?_
   refine Sn (Aw (Rt ?_))
   refine at_ret1 rfl (rv_tmp rfl) ⟨_, ⟨by simp [h1], rfl⟩, ?_⟩
   try dsimp only [ca, na]
   exact ent

/-- 2.1: the cost of a local -/
def tileAt (t : Tile) (l : Int) : Int := if 0 ≤ l ∧ l < t.c.length ∧ MayT t then cAt t.c l else 0
theorem tile_At (tc : Value) (t : Tile) (l : Int) (hl : t.c.length ≤ 2^30) (hc : Bytes t.c) : Spec PP 156 #[tileV tc t, .int .i64 l] [Sl eB tc t.c] (fun v M => v = .int .i64 (tileAt t l) ∧ M = [Sl eB tc t.c]) := by
  refine spec_of (Go.Proofs.Tryz.func156) rfl rfl rfl (by exact fc_enters_156) ?_
  intro g F
  try dsimp only [ca, na]
  refine Sq (Rg ?_)
  refine Wx (xo_box rfl rfl) ?_
  rintro _ _ ⟨b2, rfl, rfl⟩
  refine rp 1 rfl ?_
  refine Sn (Aw (Sq (Sq (Rg ?_))))
  refine Wp (po_loada rfl (by exact fc_agg_41_3) (by rfl)) ?_
  refine rp 1 rfl ?_
  refine Wc (co_fn rfl rfl) (tile_is tc t l hl) ?_
  rintro v7 _ ⟨rfl, rfl⟩
  try dsimp only [ca, na]
  refine Wp (po_not rfl) ?_
  refine Sn (Aw ?_)
  refine Rc rfl ?_ ?_
  ·skip
   intro h
   refine Sq (Rg ?_)
   refine rp 1 rfl ?_
   refine Sn (Aw (Rt (Ar ?_)))
   refine at_ret1 rfl (rv_tmp rfl) ⟨_, ⟨by rw [tileAt, if_neg h], rfl⟩, ?_⟩
   try dsimp only [ca, na]
   exact ent
  ·skip
   intro h
   have hx := hc.get (i := l.toNat) (by omega)
   refine Sk (Aw (Sq (Rg ?_)))
   refine Wp (po_faddr rfl (by exact fc_field_41_2_2)) ?_
   refine Wp (po_load rfl (by exact fc_flat_22) (by rfl)) ?_
   refine rp 1 rfl ?_
   refine Wp (po_iaddr rfl rfl (by exact fc_slice_22_5_1) (by first | omega | (simp <;> omega)) (by first | omega | (simp <;> omega))) ?_
   refine Wp (po_load_sl rfl (List.getElem?_eq_getElem (by first | omega | (simp <;> omega))) (by exact fc_flat_5) (by rfl)) ?_
   refine Wp (po_conv_w rfl (by exact fc_int_5_u8) (by exact fc_int_3_i64) (wrap_i64 _ (by omega) (by omega))) ?_
   refine rp 1 rfl ?_
   refine Sn (Aw (Rt ?_))
   refine at_ret1 rfl (rv_tmp rfl) ⟨_, ⟨by rw [tileAt, if_pos h, cAt_get (by omega)], rfl⟩, ?_⟩
   try dsimp only [ca, na]
   exact ent

theorem seeds_out (tc : Value) (t : Tile) (c s : Int) (hc : 0 ≤ c) (hc2 : c ≤ 2^30) (hw : 1 ≤ t.w ∧ t.w ≤ 16) (hh : 1 ≤ t.h ∧ t.h ≤ 16) : Spec PP 108 #[tileV tc t, .int .i64 c, .int .i64 s] [Sl eB tc t.c] (fun v M => v = .bool (decide (OutS t.w t.h c s)) ∧ M = [Sl eB tc t.c]) := by
  refine spec_of (Go.Proofs.Tryz.func108) rfl rfl rfl (by exact fc_enters_108) ?_
  intro g F
  try dsimp only [ca, na]
  refine Sq (Rg ?_)
  refine Wx (xo_box rfl rfl) ?_
  rintro _ _ ⟨b3, rfl, rfl⟩
  refine rp 1 rfl ?_
  refine Sn (Aw (Sq ?_))
  refine r_ord [] _ [(0, 1), (1, 1), (2, 0), (3, 1), (4, 1), (5, 1), (6, 0), (7, 1), (8, 1), (9, 1)] fc_mixed (by kernel_rfl) (fun _ h => h) ?_
  refine Of rfl (po_move rfl) ?_
  refine Of rfl (po_faddr rfl (by exact fc_field_41_0_0)) ?_
  refine Or rfl (po_load rfl (by exact fc_flat_3) (by rfl)) ?_
  refine Of rfl (po_rem' rfl rfl (by omega) (by omega)) ?_
  refine Of rfl (po_move rfl) ?_
  refine Of rfl (po_faddr rfl (by exact fc_field_41_0_0)) ?_
  refine Or rfl (po_load rfl (by exact fc_flat_3) (by rfl)) ?_
  refine Of rfl (po_quo' rfl rfl (by omega) (by omega) (by omega)) ?_
  refine Of rfl (po_assign rfl) ?_
  refine Of rfl (po_assign rfl) ?_
  refine o_nil ?_
  refine Aw (Sq (Sq (Rg ?_)))
  refine rp 1 rfl ?_
  refine Sn (Aw (Bk (Sq (Rg ?_))))
  refine Wp (po_eq rfl rfl) ?_
  refine rp 1 rfl ?_
  refine Sn (Aw ?_)
  refine Rc rfl ?_ ?_
  ·skip
   intro h0
   refine Sq (Rg ?_)
   refine rp 1 rfl ?_
   refine Wp (po_eq rfl rfl) ?_
   refine rp 1 rfl ?_
   refine Sn (Aw (Rt (Br (Ar ?_))))
   refine at_ret1 rfl (rv_tmp rfl) ⟨_, ⟨by simp only [OutS, if_pos h0], rfl⟩, ?_⟩
   try dsimp only [ca, na]
   exact ent
  ·skip
   intro h0
   refine Sq (Rg ?_)
   refine Wp (po_eq rfl rfl) ?_
   refine rp 1 rfl ?_
   refine Sn (Aw ?_)
   refine Rc rfl ?_ ?_
   ·skip
    intro h1
    refine Sq (Rg ?_)
    refine rp 1 rfl ?_
    refine Wp (po_faddr rfl (by exact fc_field_41_0_0)) ?_
    refine Wp (po_load rfl (by exact fc_flat_3) (by rfl)) ?_
    refine Wp (po_sub' rfl rfl (by omega) (by omega)) ?_
    refine Wp (po_eq rfl rfl) ?_
    refine rp 1 rfl ?_
    refine Sn (Aw (Rt (Br (Ar ?_))))
    refine at_ret1 rfl (rv_tmp rfl) ⟨_, ⟨by simp only [OutS, if_neg h0, if_pos h1], rfl⟩, ?_⟩
    try dsimp only [ca, na]
    exact ent
   ·skip
    intro h1
    refine Sq (Rg ?_)
    refine Wp (po_eq rfl rfl) ?_
    refine rp 1 rfl ?_
    refine Sn (Aw ?_)
    refine Rc rfl ?_ ?_
    ·skip
     intro h2
     refine Sq (Rg ?_)
     refine rp 1 rfl ?_
     refine Wp (po_faddr rfl (by exact fc_field_41_1_1)) ?_
     refine Wp (po_load rfl (by exact fc_flat_3) (by rfl)) ?_
     refine Wp (po_sub' rfl rfl (by omega) (by omega)) ?_
     refine Wp (po_eq rfl rfl) ?_
     refine rp 1 rfl ?_
     refine Sn (Aw (Rt (Br (Ar ?_))))
     refine at_ret1 rfl (rv_tmp rfl) ⟨_, ⟨by simp only [OutS, if_neg h0, if_neg h1, if_pos h2], rfl⟩, ?_⟩
     try dsimp only [ca, na]
     exact ent
    ·skip
     intro h2
     refine Sq (Rg ?_)
     refine Wp (po_eq rfl rfl) ?_
     refine rp 1 rfl ?_
     refine Sn (Aw ?_)
     refine Rc rfl ?_ ?_
     ·skip
      intro h3
      refine Sq (Rg ?_)
      refine rp 1 rfl ?_
      refine Wp (po_eq rfl rfl) ?_
      refine rp 1 rfl ?_
      refine Sn (Aw (Rt (Br (Ar ?_))))
      refine at_ret1 rfl (rv_tmp rfl) ⟨_, ⟨by simp only [OutS, if_neg h0, if_neg h1, if_neg h2, if_pos h3], rfl⟩, ?_⟩
      try dsimp only [ca, na]
      exact ent
     ·skip
      intro h3
      refine Sk (Bn (Aw (Sq (Rg ?_))))
      refine rp 1 rfl ?_
      refine Wp (po_eq rfl rfl) ?_
      refine rp 1 rfl ?_
      refine Sn (Aw (Rt ?_))
      refine at_ret1 rfl (rv_tmp rfl) ⟨_, ⟨by simp only [OutS, if_neg h0, if_neg h1, if_neg h2, if_neg h3], rfl⟩, ?_⟩
      try dsimp only [ca, na]
      exact ent

/-- a struct of a tile, where it lies for a closure -/
abbrev tileB (b : Nat) (tc : Value) (t : Tile) : HP := Blk b 41 [.int .i64 t.w, .int .i64 t.h, tc]
theorem seeds_May1 (b : Nat) (tc : Value) (t : Tile) (s : Seed) (hl : t.c.length ≤ 2^30) (hw : 1 ≤ t.w ∧ t.w ≤ 16) (hh : 1 ≤ t.h ∧ t.h ≤ 16) :
    Spec PP 107 #[.agg #[.int .i64 s.cell, .int .i64 s.side, .int .i64 s.key], .pointer (some ⟨b, 0, none⟩)] [tileB b tc t, Sl eB tc t.c] (fun v M => v = .bool (!decide (MaySd t s)) ∧ M = [tileB b tc t, Sl eB tc t.c]) := by
  refine spec_of (Go.Proofs.Tryz.func107) rfl rfl rfl (by exact fc_enters_107) ?_
  intro g F
  try dsimp only [ca, na]
  refine Sq (Rg ?_)
  refine Wx (xo_box rfl rfl) ?_
  rintro _ _ ⟨b2, rfl, rfl⟩
  refine rp 1 rfl ?_
  refine Sn (Aw (Sq (Rg ?_)))
  refine Wp (po_faddr rfl (by exact fc_field_45_0_0)) ?_
  refine Wp (po_load rfl (by exact fc_flat_3) (by rfl)) ?_
  refine Wp (po_lt rfl rfl) ?_
  by_cases h1 : s.cell < 0
  ·skip
   refine ws (st_po (po_bt (po_move rfl) (decide_eq_true h1)) rfl rfl rfl ?_)
   refine rp 36 rfl ?_
   refine Sn (Aw (Rt ?_))
   refine at_ret1 rfl (rv_tmp rfl) ⟨_, ⟨by rw [decide_eq_false (by simp only [MaySd]; omega)]; rfl, rfl⟩, ?_⟩
   try dsimp only [ca, na]
   exact ent
  ·skip
   refine ws (st_po (po_bf (po_move rfl) (decide_eq_false h1)) rfl rfl rfl ?_)
   refine Wp (po_faddr rfl (by exact fc_field_45_0_0)) ?_
   refine Wp (po_load rfl (by exact fc_flat_3) (by rfl)) ?_
   refine Wp (po_faddr rfl (by exact fc_field_41_2_2)) ?_
   refine Wp (po_load rfl (by exact fc_flat_22) (by rfl)) ?_
   refine Wp (po_len rfl (by exact fc_slice_22_5_1)) ?_
   refine Wp (po_ge rfl rfl) ?_
   refine rp 1 rfl ?_
   by_cases h2 : (t.c.length : Int) ≤ s.cell
   ·skip
    refine ws (st_po (po_bt (po_move rfl) (decide_eq_true h2)) rfl rfl rfl ?_)
    refine rp 28 rfl ?_
    refine Sn (Aw (Rt ?_))
    refine at_ret1 rfl (rv_tmp rfl) ⟨_, ⟨by rw [decide_eq_false (by simp only [MaySd]; omega)]; rfl, rfl⟩, ?_⟩
    try dsimp only [ca, na]
    exact ent
   ·skip
    refine ws (st_po (po_bf (po_move rfl) (decide_eq_false h2)) rfl rfl rfl ?_)
    refine Wp (po_faddr rfl (by exact fc_field_41_2_2)) ?_
    refine Wp (po_load rfl (by exact fc_flat_22) (by rfl)) ?_
    refine Wp (po_faddr rfl (by exact fc_field_45_0_0)) ?_
    refine Wp (po_load rfl (by exact fc_flat_3) (by rfl)) ?_
    refine Wp (po_iaddr rfl rfl (by exact fc_slice_22_5_1) (by first | omega | (simp <;> omega)) (by first | omega | (simp <;> omega))) ?_
    refine Wp (po_load_sl rfl (List.getElem?_eq_getElem (by first | omega | (simp <;> omega))) (by exact fc_flat_5) (by rfl)) ?_
    refine Wp (po_eq rfl rfl) ?_
    refine rp 1 rfl ?_
    by_cases h3 : t.c[s.cell.toNat]'(by omega) = 255
    ·skip
     refine ws (st_po (po_bt (po_move rfl) (decide_eq_true h3)) rfl rfl rfl ?_)
     refine rp 19 rfl ?_
     refine Sn (Aw (Rt ?_))
     refine at_ret1 rfl (rv_tmp rfl) ⟨_, ⟨by rw [decide_eq_false (by simp only [MaySd, cAt_get (show s.cell.toNat < t.c.length by omega)]; simp [h3])]; rfl, rfl⟩, ?_⟩
     try dsimp only [ca, na]
     exact ent
    ·skip
     refine ws (st_po (po_bf (po_move rfl) (decide_eq_false h3)) rfl rfl rfl ?_)
     refine Wp (po_faddr rfl (by exact fc_field_45_2_2)) ?_
     refine Wp (po_load rfl (by exact fc_flat_3) (by rfl)) ?_
     refine Wp (po_lt rfl rfl) ?_
     refine rp 1 rfl ?_
     by_cases h4 : s.key < 0
     ·skip
      refine ws (st_po (po_bt (po_move rfl) (decide_eq_true h4)) rfl rfl rfl ?_)
      refine rp 14 rfl ?_
      refine Sn (Aw (Rt ?_))
      refine at_ret1 rfl (rv_tmp rfl) ⟨_, ⟨by rw [decide_eq_false (by simp only [MaySd]; omega)]; rfl, rfl⟩, ?_⟩
      try dsimp only [ca, na]
      exact ent
     ·skip
      refine ws (st_po (po_bf (po_move rfl) (decide_eq_false h4)) rfl rfl rfl ?_)
      refine Wp (po_faddr rfl (by exact fc_field_45_2_2)) ?_
      refine Wp (po_load rfl (by exact fc_flat_3) (by rfl)) ?_
      refine Wp (po_gt rfl rfl) ?_
      refine rp 1 rfl ?_
      by_cases h5 : 1073741824 < s.key
      ·skip
       refine ws (st_po (po_bt (po_move rfl) (decide_eq_true h5)) rfl rfl rfl ?_)
       refine rp 9 rfl ?_
       refine Sn (Aw (Rt ?_))
       refine at_ret1 rfl (rv_tmp rfl) ⟨_, ⟨by rw [decide_eq_false (by simp only [MaySd]; omega)]; rfl, rfl⟩, ?_⟩
       try dsimp only [ca, na]
       exact ent
      ·skip
       refine ws (st_po (po_bf (po_move rfl) (decide_eq_false h5)) rfl rfl rfl ?_)
       refine Wp (po_loada rfl (by exact fc_agg_41_3) (by rfl)) ?_
       refine Wp (po_faddr rfl (by exact fc_field_45_0_0)) ?_
       refine Wp (po_load rfl (by exact fc_flat_3) (by rfl)) ?_
       refine Wp (po_faddr rfl (by exact fc_field_45_1_1)) ?_
       refine Wp (po_load rfl (by exact fc_flat_3) (by rfl)) ?_
       refine Wc (co_fn rfl rfl) (seeds_out tc t s.cell s.side (by omega) (by omega) hw hh) ?_
       rintro v40 _ ⟨rfl, rfl⟩
       try dsimp only [ca, na]
       refine Wp (po_not rfl) ?_
       refine rp 2 rfl ?_
       refine Sn (Aw (Rt ?_))
       refine at_ret1 rfl (rv_tmp rfl) ⟨_, ⟨by congr 2; refine decide_eq_decide.2 ?_; simp only [MaySd, cAt_get (show s.cell.toNat < t.c.length by omega)]; constructor; exact (fun h => ⟨by omega, by omega, h3, by omega, by omega, h⟩); exact (fun h => h.2.2.2.2.2), rfl⟩, ?_⟩
       try dsimp only [ca, na]
       exact ent

theorem index_S (f : Nat) (cs : List Value) (A : HP) (p : Seed → Bool) (s : Value) (xs : List Seed) (hl : xs.length ≤ 2^30)
    (hf : ∀ x : Seed, Spec PP f (Value.agg #[.int .i64 x.cell, .int .i64 x.side, .int .i64 x.key] :: cs).toArray [A] (fun v M => v = .bool (p x) ∧ M = [A])) :
    Spec PP 136 #[s, .func (.func f) #[] cs.toArray] [Sl eS s xs, A] (fun v M => (∃ r : Int, v = .int .i64 r ∧ -1 ≤ r ∧ (0 ≤ r ↔ ∃ x ∈ xs, p x = true)) ∧ M = [Sl eS s xs, A]) := by
  refine spec_of (Go.Proofs.Tryz.func136) rfl rfl rfl (by exact fc_enters_136) ?_
  intro g F
  try dsimp only [ca, na]
  refine Sq (Rg ?_)
  refine rp 1 rfl ?_
  refine Sn (Aw (Sq (Sq (Rg ?_))))
  refine rp 1 rfl ?_
  refine Wp (po_len rfl (by exact fc_slice_32_45_3)) ?_
  refine rp 1 rfl ?_
  refine Sn (Aw (Bk ?_))
  refine r_loop (S := Nat) (fun k => [(8, .int .i64 k)]) [(0, _), (1, _), (7, _)] (fun k => [Sl eS s xs, A, F]) (fun k => k ≤ xs.length ∧ ∀ j, (h : j < xs.length) → j < k → p xs[j] = false) (fun k => xs.length - k) (0) (And.intro rfl (And.intro rfl (And.intro rfl (trivial)))) (And.intro rfl (trivial)) (⟨by omega, fun j _ h => by omega⟩) ent ?_
  rintro k ⟨hk, hne⟩
  try dsimp only [ca, na]
  refine Sq (Rg ?_)
  refine Wp (po_lt rfl rfl) ?_
  refine Sn (Aw (Sq ?_))
  refine Rc rfl ?_ ?_
  ·skip
   intro hlt
   refine Sk (Aw (Sq (Bk (Sq (Rg ?_)))))
   refine rp 2 rfl ?_
   refine Sn (Aw (Sq (Rg ?_)))
   refine rp 3 rfl ?_
   refine Wp (po_iaddr rfl rfl (by exact fc_slice_32_45_3) (by first | omega | (simp <;> omega)) (by first | omega | (simp <;> omega))) ?_
   refine Wp (ld_eS rfl (List.getElem?_eq_getElem (by first | omega | (simp <;> omega))) (by exact fc_agg_45_3)) ?_
   refine Wc (co_clo (fs := []) rfl rfl) (hf (xs[k]'(by omega))) ?_
   rintro v16 _ ⟨rfl, rfl⟩
   try dsimp only [ca, na]
   refine Sn (Aw ?_)
   refine Rc rfl ?_ ?_
   ·skip
    intro heq
    refine Sq (Rg ?_)
    refine rp 2 rfl ?_
    refine Sn (Aw (Rt (Br (Ar (Ar (Br (Ar ?_)))))))
    refine at_ret1 rfl (rv_tmp rfl) ⟨_, ⟨⟨_, rfl, by omega, by simp only [Int.natCast_nonneg, true_iff]; exact ⟨_, List.getElem_mem _, heq⟩⟩, rfl⟩, ?_⟩
    try dsimp only [ca, na]
    exact ent
   ·skip
    intro heq
    refine Sk (Bn (Aw (Rg ?_)))
    refine Wp (po_add' rfl rfl (by omega) (by omega)) ?_
    refine rp 1 rfl ?_
    refine Sn ?_
    exact at_again (k + 1) (And.intro rfl (trivial)) (And.intro rfl (And.intro rfl (And.intro rfl (trivial)))) (⟨by omega, fun j hj h => by by_cases e : j = k; (subst e; simpa using heq); exact hne j hj (by omega)⟩) (by omega) ent
  ·skip
   intro hlt
   refine Ex' (Ax (Ax (Bh (Aw (Sq (Rg ?_))))))
   refine rp 1 rfl ?_
   refine Sn (Aw (Rt ?_))
   refine at_ret1 rfl (rv_tmp rfl) ⟨_, ⟨⟨_, rfl, by omega, by constructor; intro h; omega; rintro ⟨x, hx, e⟩; obtain ⟨j, hj, e2⟩ := List.getElem_of_mem hx; subst e2; rw [hne j hj (by omega)] at e; cases e⟩, rfl⟩, ?_⟩
   try dsimp only [ca, na]
   exact ent

theorem contains_S (f : Nat) (cs : List Value) (A : HP) (p : Seed → Bool) (s : Value) (xs : List Seed) (hl : xs.length ≤ 2^30)
    (hf : ∀ x : Seed, Spec PP f (Value.agg #[.int .i64 x.cell, .int .i64 x.side, .int .i64 x.key] :: cs).toArray [A] (fun v M => v = .bool (p x) ∧ M = [A])) :
    Spec PP 106 #[s, .func (.func f) #[] cs.toArray] [Sl eS s xs, A] (fun v M => v = .bool (decide (∃ x ∈ xs, p x = true)) ∧ M = [Sl eS s xs, A]) := by
  refine spec_of (Go.Proofs.Tryz.func106) rfl rfl rfl (by exact fc_enters_106) ?_
  intro g F
  try dsimp only [ca, na]
  refine Sq (Rg ?_)
  refine rp 1 rfl ?_
  refine Sn (Aw (Sq (Rg ?_)))
  refine rp 2 rfl ?_
  refine Wc (co_fn rfl rfl) (index_S f cs A p s xs hl hf) ?_
  rintro v7 _ ⟨⟨r, rfl, hr, he⟩, rfl⟩
  try dsimp only [ca, na]
  refine Wp (po_ge rfl rfl) ?_
  refine rp 1 rfl ?_
  refine Sn (Aw (Rt ?_))
  refine at_ret1 rfl (rv_tmp rfl) ⟨_, ⟨congrArg Value.bool (decide_eq_decide.2 he), rfl⟩, ?_⟩
  try dsimp only [ca, na]
  exact ent
end Hd
end
section
namespace Hd
set_option maxRecDepth 100000
open Go

theorem where_May (w h : Int) : Spec PP 88 #[.int .i64 w, .int .i64 h] [] (fun v M => v = .bool (decide (May w h)) ∧ M = []) := by
  refine spec_of (Go.Proofs.Tryz.func88) rfl rfl rfl (by exact fc_enters_88) ?_
  intro g F
  try dsimp only [ca, na]
  refine Sq (Rg ?_)
  refine rp 1 rfl ?_
  refine Sn (Aw (Sq (Rg ?_)))
  refine rp 1 rfl ?_
  refine Wp (po_ge rfl rfl) ?_
  by_cases h1 : 1 ≤ w
  ·skip
   refine ws (st_po (po_bt (po_move rfl) (decide_eq_true h1)) rfl rfl rfl ?_)
   refine rp 1 rfl ?_
   refine Wp (po_le rfl rfl) ?_
   refine rp 1 rfl ?_
   by_cases h2 : w ≤ 1024
   ·skip
    refine ws (st_po (po_bt (po_move rfl) (decide_eq_true h2)) rfl rfl rfl ?_)
    refine rp 1 rfl ?_
    refine Wp (po_ge rfl rfl) ?_
    refine rp 1 rfl ?_
    by_cases h3 : 1 ≤ h
    ·skip
     refine ws (st_po (po_bt (po_move rfl) (decide_eq_true h3)) rfl rfl rfl ?_)
     refine rp 1 rfl ?_
     refine Wp (po_le rfl rfl) ?_
     refine rp 2 rfl ?_
     refine Sn (Aw (Rt ?_))
     refine at_ret1 rfl (rv_tmp rfl) ⟨_, ⟨by simp [h1, h2, h3, May], rfl⟩, ?_⟩
     try dsimp only [ca, na]
     exact ent
    ·skip
     refine ws (st_po (po_bf (po_move rfl) (decide_eq_false h3)) rfl rfl rfl ?_)
     refine rp 4 rfl ?_
     refine Sn (Aw (Rt ?_))
     refine at_ret1 rfl (rv_tmp rfl) ⟨_, ⟨by simp [h1, h2, h3, May], rfl⟩, ?_⟩
     try dsimp only [ca, na]
     exact ent
   ·skip
    refine ws (st_po (po_bf (po_move rfl) (decide_eq_false h2)) rfl rfl rfl ?_)
    refine rp 8 rfl ?_
    refine Sn (Aw (Rt ?_))
    refine at_ret1 rfl (rv_tmp rfl) ⟨_, ⟨by simp [h1, h2, May], rfl⟩, ?_⟩
    try dsimp only [ca, na]
    exact ent
  ·skip
   refine ws (st_po (po_bf (po_move rfl) (decide_eq_false h1)) rfl rfl rfl ?_)
   refine rp 12 rfl ?_
   refine Sn (Aw (Rt ?_))
   refine at_ret1 rfl (rv_tmp rfl) ⟨_, ⟨by simp [h1, May], rfl⟩, ?_⟩
   try dsimp only [ca, na]
   exact ent

theorem where_is (w h c : Int) : Spec PP 73 #[.int .i64 w, .int .i64 h, .int .i64 c] [] (fun v M => v = .bool (decide (IsC w h c)) ∧ M = []) := by
  refine spec_of (Go.Proofs.Tryz.func73) rfl rfl rfl (by exact fc_enters_73) ?_
  intro g F
  try dsimp only [ca, na]
  refine Sq (Rg ?_)
  refine rp 1 rfl ?_
  refine Sn (Aw (Sq (Rg ?_)))
  refine rp 2 rfl ?_
  refine Wc (co_fn rfl rfl) (where_May w h) ?_
  rintro v9 _ ⟨rfl, rfl⟩
  try dsimp only [ca, na]
  by_cases hm : May w h
  ·skip
   refine ws (st_po (po_bt (po_move rfl) (decide_eq_true hm)) rfl rfl rfl ?_)
   refine rp 1 rfl ?_
   refine Wp (po_ge rfl rfl) ?_
   refine rp 1 rfl ?_
   by_cases h0 : 0 ≤ c
   ·skip
    refine ws (st_po (po_bt (po_move rfl) (decide_eq_true h0)) rfl rfl rfl ?_)
    have hb := may_mul hm
    refine rp 3 rfl ?_
    refine Wp (po_mul' rfl rfl (by omega) (by omega)) ?_
    refine Wp (po_lt rfl rfl) ?_
    refine rp 2 rfl ?_
    refine Sn (Aw (Rt ?_))
    refine at_ret1 rfl (rv_tmp rfl) ⟨_, ⟨by simp [hm, h0], rfl⟩, ?_⟩
    try dsimp only [ca, na]
    exact ent
   ·skip
    refine ws (st_po (po_bf (po_move rfl) (decide_eq_false h0)) rfl rfl rfl ?_)
    refine rp 7 rfl ?_
    refine Sn (Aw (Rt ?_))
    refine at_ret1 rfl (rv_tmp rfl) ⟨_, ⟨by simp [h0], rfl⟩, ?_⟩
    try dsimp only [ca, na]
    exact ent
  ·skip
   refine ws (st_po (po_bf (po_move rfl) (decide_eq_false hm)) rfl rfl rfl ?_)
   refine rp 11 rfl ?_
   refine Sn (Aw (Rt ?_))
   refine at_ret1 rfl (rv_tmp rfl) ⟨_, ⟨by simp only [IsC, hm, false_and, decide_false], rfl⟩, ?_⟩
   try dsimp only [ca, na]
   exact ent

theorem where_Cell (w h x y : Int) : Spec PP 80 #[.int .i64 w, .int .i64 h, .int .i64 x, .int .i64 y] [] (fun v M => v = .int .i64 (cellN w h x y) ∧ M = []) := by
  refine spec_of (Go.Proofs.Tryz.func80) rfl rfl rfl (by exact fc_enters_80) ?_
  intro g F
  try dsimp only [ca, na]
  by_cases hm : May w h
  ·skip
   refine Sq (Rg ?_)
   refine rp 1 rfl ?_
   refine Sn (Aw (Sq (Sq (Rg ?_))))
   refine rp 2 rfl ?_
   refine Wc (co_fn rfl rfl) (where_May w h) ?_
   rintro v11 _ ⟨rfl, rfl⟩
   try dsimp only [ca, na]
   refine Wp (po_not rfl) ?_
   refine Wp (po_bf (po_move rfl) (by simp [hm])) ?_
   refine rp 1 rfl ?_
   refine Wp (po_lt rfl rfl) ?_
   refine rp 1 rfl ?_
   by_cases hx : x < 0
   ·skip
    refine ws (st_po (po_bt (po_move rfl) (decide_eq_true hx)) rfl rfl rfl ?_)
    refine rp 13 rfl ?_
    refine Sn (Aw ?_)
    refine r_cond_t rfl rfl ?_
    refine Sq (Rg ?_)
    refine rp 1 rfl ?_
    refine Sn (Aw (Rt (Ar ?_)))
    refine at_ret1 rfl (rv_tmp rfl) ⟨_, ⟨by rw [cellN, if_neg (by omega)], rfl⟩, ?_⟩
    try dsimp only [ca, na]
    exact ent
   ·skip
    refine ws (st_po (po_bf (po_move rfl) (decide_eq_false hx)) rfl rfl rfl ?_)
    refine rp 2 rfl ?_
    refine Wp (po_ge rfl rfl) ?_
    refine rp 1 rfl ?_
    by_cases hx2 : w ≤ x
    ·skip
     refine ws (st_po (po_bt (po_move rfl) (decide_eq_true hx2)) rfl rfl rfl ?_)
     refine rp 8 rfl ?_
     refine Sn (Aw ?_)
     refine r_cond_t rfl rfl ?_
     refine Sq (Rg ?_)
     refine rp 1 rfl ?_
     refine Sn (Aw (Rt (Ar ?_)))
     refine at_ret1 rfl (rv_tmp rfl) ⟨_, ⟨by rw [cellN, if_neg (by omega)], rfl⟩, ?_⟩
     try dsimp only [ca, na]
     exact ent
    ·skip
     refine ws (st_po (po_bf (po_move rfl) (decide_eq_false hx2)) rfl rfl rfl ?_)
     refine rp 1 rfl ?_
     refine Wp (po_lt rfl rfl) ?_
     refine rp 1 rfl ?_
     by_cases hy : y < 0
     ·skip
      refine ws (st_po (po_bt (po_move rfl) (decide_eq_true hy)) rfl rfl rfl ?_)
      refine rp 4 rfl ?_
      refine Sn (Aw ?_)
      refine r_cond_t rfl rfl ?_
      refine Sq (Rg ?_)
      refine rp 1 rfl ?_
      refine Sn (Aw (Rt (Ar ?_)))
      refine at_ret1 rfl (rv_tmp rfl) ⟨_, ⟨by rw [cellN, if_neg (by omega)], rfl⟩, ?_⟩
      try dsimp only [ca, na]
      exact ent
     ·skip
      refine ws (st_po (po_bf (po_move rfl) (decide_eq_false hy)) rfl rfl rfl ?_)
      refine rp 2 rfl ?_
      refine Wp (po_ge rfl rfl) ?_
      refine rp 1 rfl ?_
      refine Sn (Aw ?_)
      refine Rc rfl ?_ ?_
      ·skip
       intro hy2
       refine Sq (Rg ?_)
       refine rp 1 rfl ?_
       refine Sn (Aw (Rt (Ar ?_)))
       refine at_ret1 rfl (rv_tmp rfl) ⟨_, ⟨by rw [cellN, if_neg (by omega)], rfl⟩, ?_⟩
       try dsimp only [ca, na]
       exact ent
      ·skip
       intro hy2
       have hb := mul_1k (a := y) (b := w) (by omega) (by omega) (by omega) (by omega)
       refine Sk (Aw (Sq (Rg ?_)))
       refine rp 2 rfl ?_
       refine Wp (po_mul' rfl rfl (by omega) (by omega)) ?_
       refine rp 1 rfl ?_
       refine Wp (po_add' rfl rfl (by omega) (by omega)) ?_
       refine rp 1 rfl ?_
       refine Sn (Aw (Rt ?_))
       refine at_ret1 rfl (rv_tmp rfl) ⟨_, ⟨by rw [cellN, if_pos (by omega)], rfl⟩, ?_⟩
       try dsimp only [ca, na]
       exact ent
  ·skip
   refine Sq (Rg ?_)
   refine rp 1 rfl ?_
   refine Sn (Aw (Sq (Sq (Rg ?_))))
   refine rp 2 rfl ?_
   refine Wc (co_fn rfl rfl) (where_May w h) ?_
   rintro v11 _ ⟨rfl, rfl⟩
   try dsimp only [ca, na]
   refine Wp (po_not rfl) ?_
   refine Wp (po_bt (po_move rfl) (by simp only [hm, decide_false, Bool.not_false])) ?_
   refine rp 17 rfl ?_
   refine Sn (Aw ?_)
   refine r_cond_t rfl rfl ?_
   refine Sq (Rg ?_)
   refine rp 1 rfl ?_
   refine Sn (Aw (Rt (Ar ?_)))
   refine at_ret1 rfl (rv_tmp rfl) ⟨_, ⟨by rw [cellN, if_neg (fun k => hm k.1)], rfl⟩, ?_⟩
   try dsimp only [ca, na]
   exact ent

theorem where_Place (w h c : Int) : Spec PP 72 #[.int .i64 w, .int .i64 h, .int .i64 c] [] (fun v M => v = (if IsC w h c then .tuple #[.int .i64 (c % w), .int .i64 (c / w)] else .tuple #[.int .i64 (-1), .int .i64 (-1)]) ∧ M = []) := by
  refine spec_of (Go.Proofs.Tryz.func72) rfl rfl rfl (by exact fc_enters_72) ?_
  intro g F
  try dsimp only [ca, na]
  refine Sq (Rg ?_)
  refine rp 2 rfl ?_
  refine Sn (Aw (Sq (Sq (Rg ?_))))
  refine rp 3 rfl ?_
  refine Wc (co_fn rfl rfl) (where_is w h c) ?_
  rintro v11 _ ⟨rfl, rfl⟩
  try dsimp only [ca, na]
  refine Wp (po_not rfl) ?_
  refine Sn (Aw ?_)
  refine Rc rfl ?_ ?_
  ·skip
   intro hc
   refine Sq (Rg ?_)
   refine rp 2 rfl ?_
   refine Sn (Aw (Rt (Ar ?_)))
   refine at_ret2 rfl (rv_tmp rfl) (rv_tmp rfl) ⟨_, ⟨by rw [if_neg hc], rfl⟩, ?_⟩
   try dsimp only [ca, na]
   exact ent
  ·skip
   intro hc
   have hb := may_mul hc.1
   refine Sk (Aw (Sq ?_))
   refine r_ord [] _ [(0, 1), (1, 1), (2, 1), (3, 1), (4, 1), (5, 1), (6, 1), (7, 1)] fc_mixed (by kernel_rfl) (fun _ h => h) ?_
   refine Of rfl (po_move rfl) ?_
   refine Of rfl (po_move rfl) ?_
   refine Of rfl (po_rem' rfl rfl (by omega) (by omega)) ?_
   refine Of rfl (po_move rfl) ?_
   refine Of rfl (po_move rfl) ?_
   refine Of rfl (po_quo' rfl rfl (by omega) (by omega) (by omega)) ?_
   refine Of rfl (po_assign rfl) ?_
   refine Of rfl (po_assign rfl) ?_
   refine o_nil ?_
   refine Aw (Rt ?_)
   refine at_ret2 rfl (rv_tmp rfl) (rv_tmp rfl) ⟨_, ⟨by rw [if_pos hc], rfl⟩, ?_⟩
   try dsimp only [ca, na]
   exact ent

theorem where_Sectors (w h : Int) : Spec PP 61 #[.int .i64 w, .int .i64 h] [] (fun v M => v = .tuple #[.int .i64 (secsN w h).1, .int .i64 (secsN w h).2] ∧ M = []) := by
  refine spec_of (Go.Proofs.Tryz.func61) rfl rfl rfl (by exact fc_enters_61) ?_
  intro g F
  try dsimp only [ca, na]
  refine Sq (Rg ?_)
  refine rp 2 rfl ?_
  refine Sn (Aw (Sq (Sq (Rg ?_))))
  refine rp 2 rfl ?_
  refine Wc (co_fn rfl rfl) (where_May w h) ?_
  rintro v8 _ ⟨rfl, rfl⟩
  try dsimp only [ca, na]
  refine Wp (po_not rfl) ?_
  refine Sn (Aw ?_)
  refine Rc rfl ?_ ?_
  ·skip
   intro hm
   refine Sq (Rg ?_)
   refine rp 2 rfl ?_
   refine Sn (Aw (Rt (Ar ?_)))
   refine at_ret2 rfl (rv_tmp rfl) (rv_tmp rfl) ⟨_, ⟨by rw [secsN, if_neg hm], rfl⟩, ?_⟩
   try dsimp only [ca, na]
   exact ent
  ·skip
   intro hm
   refine Sk (Aw (Sq (Rg ?_)))
   refine rp 1 rfl ?_
   refine Wp (po_add' rfl rfl (by omega) (by omega)) ?_
   refine Wp (po_sub' rfl rfl (by omega) (by omega)) ?_
   refine Wp (po_quo' rfl rfl (by omega) (by omega) (by omega)) ?_
   refine rp 1 rfl ?_
   refine Wp (po_add' rfl rfl (by omega) (by omega)) ?_
   refine Wp (po_sub' rfl rfl (by omega) (by omega)) ?_
   refine Wp (po_quo' rfl rfl (by omega) (by omega) (by omega)) ?_
   refine rp 2 rfl ?_
   refine Sn (Aw (Rt ?_))
   refine at_ret2 rfl (rv_tmp rfl) (rv_tmp rfl) ⟨_, ⟨by rw [secsN, if_pos hm, acrN, acrN, show w + 16 - 1 = w + 15 from by omega, show h + 16 - 1 = h + 15 from by omega], rfl⟩, ?_⟩
   try dsimp only [ca, na]
   exact ent

theorem where_Sector (w h c : Int) : Spec PP 46 #[.int .i64 w, .int .i64 h, .int .i64 c] [] (fun v M => v = .int .i64 (sectorN w h c) ∧ M = []) := by
  refine spec_of (Go.Proofs.Tryz.func46) rfl rfl rfl (by exact fc_enters_46) ?_
  intro g F
  try dsimp only [ca, na]
  by_cases hc : IsC w h c
  ·skip
   refine Sq (Rg ?_)
   refine rp 1 rfl ?_
   refine Sn (Aw (Sq (Rg ?_)))
   refine rp 3 rfl ?_
   refine Wc (co_fn rfl rfl) (where_Place w h c) ?_
   rintro v15 _ ⟨rfl, rfl⟩
   try dsimp only [ca, na]
   rw [if_pos hc]
   have hxy := isc_xy hc
   refine rp 5 rfl ?_
   refine Sn (Aw (Sq (Sq (Rg ?_))))
   refine rp 1 rfl ?_
   refine Wp (po_lt rfl rfl) ?_
   refine Sn (Aw ?_)
   first | refine r_dec_f rfl (by omega) ?_ | refine r_nd_f rfl (by omega) ?_ | refine r_cond_f rfl (by omega) ?_
   refine Sk (Aw (Sq (Rg ?_)))
   refine rp 2 rfl ?_
   refine Wc (co_fn rfl rfl) (where_Sectors w h) ?_
   rintro v23 _ ⟨rfl, rfl⟩
   try dsimp only [ca, na]
   rw [secsN, if_pos hc.1]
   dsimp only
   have hb := mul_1k (a := c / w / 16) (b := acrN w) (by omega) (by omega) (by unfold acrN; omega) (by unfold acrN; omega)
   refine rp 5 rfl ?_
   refine Sn (Aw (Sq (Rg ?_)))
   refine rp 1 rfl ?_
   refine Wp (po_quo' rfl rfl (by omega) (by omega) (by omega)) ?_
   refine rp 1 rfl ?_
   refine Wp (po_mul' rfl rfl (by omega) (by omega)) ?_
   refine rp 1 rfl ?_
   refine Wp (po_quo' rfl rfl (by omega) (by omega) (by omega)) ?_
   refine Wp (po_add' rfl rfl (by omega) (by omega)) ?_
   refine rp 1 rfl ?_
   refine Sn (Aw (Rt ?_))
   refine at_ret1 rfl (rv_tmp rfl) ⟨_, ⟨by rw [sectorN, if_pos hc], rfl⟩, ?_⟩
   try dsimp only [ca, na]
   exact ent
  ·skip
   refine Sq (Rg ?_)
   refine rp 1 rfl ?_
   refine Sn (Aw (Sq (Rg ?_)))
   refine rp 3 rfl ?_
   refine Wc (co_fn rfl rfl) (where_Place w h c) ?_
   rintro v15 _ ⟨rfl, rfl⟩
   try dsimp only [ca, na]
   rw [if_neg hc]
   refine rp 5 rfl ?_
   refine Sn (Aw (Sq (Sq (Rg ?_))))
   refine rp 1 rfl ?_
   refine Wp (po_lt rfl rfl) ?_
   refine Sn (Aw ?_)
   first | refine r_dec_t rfl (by omega) ?_ | refine r_nd_t rfl (by omega) ?_ | refine r_cond_t rfl (by omega) ?_
   refine Sq (Rg ?_)
   refine rp 1 rfl ?_
   refine Sn (Aw (Rt (Ar ?_)))
   refine at_ret1 rfl (rv_tmp rfl) ⟨_, ⟨by rw [sectorN, if_neg hc], rfl⟩, ?_⟩
   try dsimp only [ca, na]
   exact ent

theorem where_corner (w h s : Int) : Spec PP 79 #[.int .i64 w, .int .i64 h, .int .i64 s] []
    (fun v M => v = (if IsS w h s then .tuple #[.int .i64 (s % acrN w * 16), .int .i64 (s / acrN w * 16), .bool true] else .tuple #[.int .i64 0, .int .i64 0, .bool false]) ∧ M = []) := by
  refine spec_of (Go.Proofs.Tryz.func79) rfl rfl rfl (by exact fc_enters_79) ?_
  intro g F
  try dsimp only [ca, na]
  refine Sq (Rg ?_)
  refine rp 3 rfl ?_
  refine Sn (Aw (Sq (Rg ?_)))
  refine rp 2 rfl ?_
  refine Wc (co_fn rfl rfl) (where_Sectors w h) ?_
  rintro v14 _ ⟨rfl, rfl⟩
  try dsimp only [ca, na]
  refine rp 5 rfl ?_
  refine Sn (Aw (Sq (Sq (Rg ?_))))
  refine rp 1 rfl ?_
  refine Wp (po_lt rfl rfl) ?_
  by_cases h0 : s < 0
  ·skip
   refine ws (st_po (po_bt (po_move rfl) (decide_eq_true h0)) rfl rfl rfl ?_)
   refine rp 6 rfl ?_
   refine Sn (Aw ?_)
   refine r_cond_t rfl rfl ?_
   refine Sq (Rg ?_)
   refine rp 3 rfl ?_
   refine Sn (Aw (Rt (Ar ?_)))
   refine at_ret3 rfl (rv_tmp rfl) (rv_tmp rfl) (rv_tmp rfl) ⟨_, ⟨by rw [if_neg (by omega)], rfl⟩, ?_⟩
   try dsimp only [ca, na]
   exact ent
  ·skip
   refine ws (st_po (po_bf (po_move rfl) (decide_eq_false h0)) rfl rfl rfl ?_)
   have hb : 0 ≤ (secsN w h).1 * (secsN w h).2 ∧ (secsN w h).1 * (secsN w h).2 ≤ 1048576 := secs_mul w h
   refine rp 3 rfl ?_
   refine Wp (po_mul' rfl rfl (by omega) (by omega)) ?_
   refine Wp (po_ge rfl rfl) ?_
   refine rp 1 rfl ?_
   refine Sn (Aw ?_)
   refine Rc rfl ?_ ?_
   ·skip
    intro h1
    refine Sq (Rg ?_)
    refine rp 3 rfl ?_
    refine Sn (Aw (Rt (Ar ?_)))
    refine at_ret3 rfl (rv_tmp rfl) (rv_tmp rfl) (rv_tmp rfl) ⟨_, ⟨by rw [if_neg (not_iss h1)], rfl⟩, ?_⟩
    try dsimp only [ca, na]
    exact ent
   ·skip
    intro h1
    have hs := iss_of h0 h1
    obtain ⟨hm, hs0, hs1⟩ := hs
    have ha := acr_pos hm
    rw [secsN, if_pos hm]
    have e1 := Int.emod_nonneg s (show acrN w ≠ 0 by omega)
    have e2 := Int.emod_lt_of_pos s (show 0 < acrN w by omega)
    have e3 := Int.ediv_nonneg hs0 (show 0 ≤ acrN w by omega)
    have e4 := Int.ediv_le_self (acrN w) hs0
    have e5 := mul_1k (a := acrN w) (b := acrN h) (by omega) (by omega) (by omega) (by omega)
    dsimp only
    refine Sk (Aw (Sq ?_))
    refine r_ord [] _ [(0, 1), (1, 1), (2, 1), (3, 1), (4, 1), (5, 1), (6, 1), (7, 1), (8, 1), (9, 1), (10, 1)] fc_mixed (by kernel_rfl) (fun _ h => h) ?_
    refine Of rfl (po_move rfl) ?_
    refine Of rfl (po_move rfl) ?_
    refine Of rfl (po_rem' rfl rfl (by omega) (by omega)) ?_
    refine Of rfl (po_mul' rfl rfl (by omega) (by omega)) ?_
    refine Of rfl (po_move rfl) ?_
    refine Of rfl (po_move rfl) ?_
    refine Of rfl (po_quo' rfl rfl (by omega) (by omega) (by omega)) ?_
    refine Of rfl (po_mul' rfl rfl (by omega) (by omega)) ?_
    refine Of rfl (po_assign rfl) ?_
    refine Of rfl (po_assign rfl) ?_
    refine Of rfl (po_assign rfl) ?_
    refine o_nil ?_
    refine Aw (Rt ?_)
    refine at_ret3 rfl (rv_tmp rfl) (rv_tmp rfl) (rv_tmp rfl) ⟨_, ⟨by rw [if_pos ⟨hm, hs0, hs1⟩], rfl⟩, ?_⟩
    try dsimp only [ca, na]
    exact ent

theorem where_Size (w h s : Int) : Spec PP 49 #[.int .i64 w, .int .i64 h, .int .i64 s] [] (fun v M => v = .tuple #[.int .i64 (sizeN w h s).1, .int .i64 (sizeN w h s).2] ∧ M = []) := by
  refine spec_of (Go.Proofs.Tryz.func49) rfl rfl rfl (by exact fc_enters_49) ?_
  intro g F
  try dsimp only [ca, na]
  by_cases hs : IsS w h s
  ·skip
   refine Sq (Rg ?_)
   refine rp 2 rfl ?_
   refine Sn (Aw (Sq (Rg ?_)))
   refine rp 3 rfl ?_
   refine Wc (co_fn rfl rfl) (where_corner w h s) ?_
   rintro v15 _ ⟨rfl, rfl⟩
   try dsimp only [ca, na]
   rw [if_pos hs]
   obtain ⟨hm, hs0, hs1⟩ := id hs
   have ha := acr_pos hm
   have hq := iss_xy hs
   refine rp 7 rfl ?_
   refine Sn (Aw (Sq (Sq (Rg ?_))))
   refine rp 1 rfl ?_
   refine Wp (po_not rfl) ?_
   refine Sn (Aw ?_)
   refine r_cond_f rfl (rfl) ?_
   refine Sk (Aw (Sq (Rg ?_)))
   refine rp 2 rfl ?_
   refine Wp (po_sub' rfl rfl (by omega) (by omega)) ?_
   refine Wp (po_min rfl rfl) ?_
   refine rp 2 rfl ?_
   refine Wp (po_sub' rfl rfl (by omega) (by omega)) ?_
   refine Wp (po_min rfl rfl) ?_
   refine rp 2 rfl ?_
   refine Sn (Aw (Rt ?_))
   refine at_ret2 rfl (rv_tmp rfl) (rv_tmp rfl) ⟨_, ⟨by rw [sizeN, if_pos hs, min_ite, min_ite], rfl⟩, ?_⟩
   try dsimp only [ca, na]
   exact ent
  ·skip
   refine Sq (Rg ?_)
   refine rp 2 rfl ?_
   refine Sn (Aw (Sq (Rg ?_)))
   refine rp 3 rfl ?_
   refine Wc (co_fn rfl rfl) (where_corner w h s) ?_
   rintro v15 _ ⟨rfl, rfl⟩
   try dsimp only [ca, na]
   rw [if_neg hs]
   refine rp 7 rfl ?_
   refine Sn (Aw (Sq (Sq (Rg ?_))))
   refine rp 1 rfl ?_
   refine Wp (po_not rfl) ?_
   refine Sn (Aw ?_)
   refine r_cond_t rfl (rfl) ?_
   refine Sq (Rg ?_)
   refine rp 2 rfl ?_
   refine Sn (Aw (Rt (Ar ?_)))
   refine at_ret2 rfl (rv_tmp rfl) (rv_tmp rfl) ⟨_, ⟨by rw [sizeN, if_neg hs], rfl⟩, ?_⟩
   try dsimp only [ca, na]
   exact ent

theorem where_Local (w h c : Int) : Spec PP 43 #[.int .i64 w, .int .i64 h, .int .i64 c] [] (fun v M => v = .int .i64 (localN w h c) ∧ M = []) := by
  refine spec_of (Go.Proofs.Tryz.func43) rfl rfl rfl (by exact fc_enters_43) ?_
  intro g F
  try dsimp only [ca, na]
  by_cases hc : IsC w h c
  ·skip
   refine Sq (Rg ?_)
   refine rp 1 rfl ?_
   refine Sn (Aw (Sq (Rg ?_)))
   refine rp 3 rfl ?_
   refine Wc (co_fn rfl rfl) (where_Place w h c) ?_
   rintro v15 _ ⟨rfl, rfl⟩
   try dsimp only [ca, na]
   rw [if_pos hc]
   have hxy := isc_xy hc
   refine rp 5 rfl ?_
   refine Sn (Aw (Sq (Sq (Rg ?_))))
   refine rp 1 rfl ?_
   refine Wp (po_lt rfl rfl) ?_
   refine Sn (Aw ?_)
   first | refine r_dec_f rfl (by omega) ?_ | refine r_nd_f rfl (by omega) ?_ | refine r_cond_f rfl (by omega) ?_
   refine Sk (Aw (Sq (Rg ?_)))
   refine rp 5 rfl ?_
   refine Wc (co_fn rfl rfl) (where_Sector w h c) ?_
   rintro v26 _ ⟨rfl, rfl⟩
   try dsimp only [ca, na]
   refine Wc (co_fn rfl rfl) (where_Size w h (sectorN w h c)) ?_
   rintro v27 _ ⟨rfl, rfl⟩
   try dsimp only [ca, na]
   have hz := size_le w h (sectorN w h c)
   have hb := mul_1k (a := c / w % 16) (b := (sizeN w h (sectorN w h c)).1) (by omega) (by omega) (by omega) (by omega)
   refine rp 5 rfl ?_
   refine Sn (Aw (Sq (Rg ?_)))
   refine rp 1 rfl ?_
   refine Wp (po_rem' rfl rfl (by omega) (by omega)) ?_
   refine rp 1 rfl ?_
   refine Wp (po_mul' rfl rfl (by omega) (by omega)) ?_
   refine rp 1 rfl ?_
   refine Wp (po_rem' rfl rfl (by omega) (by omega)) ?_
   refine Wp (po_add' rfl rfl (by omega) (by omega)) ?_
   refine rp 1 rfl ?_
   refine Sn (Aw (Rt ?_))
   refine at_ret1 rfl (rv_tmp rfl) ⟨_, ⟨by rw [localN, if_pos hc], rfl⟩, ?_⟩
   try dsimp only [ca, na]
   exact ent
  ·skip
   refine Sq (Rg ?_)
   refine rp 1 rfl ?_
   refine Sn (Aw (Sq (Rg ?_)))
   refine rp 3 rfl ?_
   refine Wc (co_fn rfl rfl) (where_Place w h c) ?_
   rintro v15 _ ⟨rfl, rfl⟩
   try dsimp only [ca, na]
   rw [if_neg hc]
   refine rp 5 rfl ?_
   refine Sn (Aw (Sq (Sq (Rg ?_))))
   refine rp 1 rfl ?_
   refine Wp (po_lt rfl rfl) ?_
   refine Sn (Aw ?_)
   first | refine r_dec_t rfl (by omega) ?_ | refine r_nd_t rfl (by omega) ?_ | refine r_cond_t rfl (by omega) ?_
   refine Sq (Rg ?_)
   refine rp 1 rfl ?_
   refine Sn (Aw (Rt (Ar ?_)))
   refine at_ret1 rfl (rv_tmp rfl) ⟨_, ⟨by rw [localN, if_neg hc], rfl⟩, ?_⟩
   try dsimp only [ca, na]
   exact ent

theorem where_Global (w h s l : Int) : Spec PP 50 #[.int .i64 w, .int .i64 h, .int .i64 s, .int .i64 l] [] (fun v M => v = .int .i64 (globalN w h s l) ∧ M = []) := by
  refine spec_of (Go.Proofs.Tryz.func50) rfl rfl rfl (by exact fc_enters_50) ?_
  intro g F
  try dsimp only [ca, na]
  by_cases hs : IsS w h s
  ·skip
   refine Sq (Rg ?_)
   refine rp 1 rfl ?_
   refine Sn (Aw (Sq (Rg ?_)))
   refine rp 3 rfl ?_
   refine Wc (co_fn rfl rfl) (where_corner w h s) ?_
   rintro v18 _ ⟨rfl, rfl⟩
   try dsimp only [ca, na]
   rw [if_pos hs]
   refine rp 7 rfl ?_
   refine Sn (Aw (Sq (Rg ?_)))
   refine rp 3 rfl ?_
   refine Wc (co_fn rfl rfl) (where_Size w h s) ?_
   rintro v26 _ ⟨rfl, rfl⟩
   try dsimp only [ca, na]
   have hz := size_le w h s
   have hb := mul_1k (a := (sizeN w h s).1) (b := (sizeN w h s).2) (by omega) (by omega) (by omega) (by omega)
   refine rp 5 rfl ?_
   refine Sn (Aw (Sq (Sq (Rg ?_))))
   refine rp 1 rfl ?_
   refine Wp (po_not rfl) ?_
   refine Wp (po_bf (po_move rfl) (rfl)) ?_
   refine rp 1 rfl ?_
   refine Wp (po_lt rfl rfl) ?_
   refine rp 1 rfl ?_
   by_cases h0 : l < 0
   ·skip
    refine ws (st_po (po_bt (po_move rfl) (decide_eq_true h0)) rfl rfl rfl ?_)
    refine rp 6 rfl ?_
    refine Sn (Aw ?_)
    refine r_cond_t rfl rfl ?_
    refine Sq (Rg ?_)
    refine rp 1 rfl ?_
    refine Sn (Aw (Rt (Ar ?_)))
    refine at_ret1 rfl (rv_tmp rfl) ⟨_, ⟨by rw [globalN, if_neg (by omega)], rfl⟩, ?_⟩
    try dsimp only [ca, na]
    exact ent
   ·skip
    refine ws (st_po (po_bf (po_move rfl) (decide_eq_false h0)) rfl rfl rfl ?_)
    refine rp 3 rfl ?_
    refine Wp (po_mul' rfl rfl (by omega) (by omega)) ?_
    refine Wp (po_ge rfl rfl) ?_
    refine rp 1 rfl ?_
    refine Sn (Aw ?_)
    refine Rc rfl ?_ ?_
    ·skip
     intro h1
     refine Sq (Rg ?_)
     refine rp 1 rfl ?_
     refine Sn (Aw (Rt (Ar ?_)))
     refine at_ret1 rfl (rv_tmp rfl) ⟨_, ⟨by rw [globalN, if_neg (by omega)], rfl⟩, ?_⟩
     try dsimp only [ca, na]
     exact ent
    ·skip
     intro h1
     obtain ⟨hg1, hg2, hg3⟩ := global_xy hs (l := l) (by omega) (by omega)
     refine Sk (Aw (Sq ?_))
     refine r_ord [] _ [(0, 1), (1, 1), (2, 1), (3, 1), (4, 1), (5, 1), (6, 1), (7, 1), (8, 1), (9, 1), (10, 1), (11, 1), (12, 2), (13, 1)] fc_mixed (by kernel_rfl) (fun _ h => h) ?_
     refine Of rfl (po_move rfl) ?_
     refine Of rfl (po_move rfl) ?_
     refine Of rfl (po_move rfl) ?_
     refine Of rfl (po_move rfl) ?_
     refine Of rfl (po_move rfl) ?_
     refine Of rfl (po_rem' rfl rfl (by omega) (by omega)) ?_
     refine Of rfl (po_add' rfl rfl (by omega) (by omega)) ?_
     refine Of rfl (po_move rfl) ?_
     refine Of rfl (po_move rfl) ?_
     refine Of rfl (po_move rfl) ?_
     refine Of rfl (po_quo' rfl rfl (by omega) (by omega) (by omega)) ?_
     refine Of rfl (po_add' rfl rfl (by omega) (by omega)) ?_
     refine o_st rfl (st_call (co_fn rfl rfl) (where_Cell w h _ _) (by infer_instance) rfl rfl rfl ?_)
     rintro v54 _ ⟨rfl, rfl⟩
     try dsimp only [ca, na]
     refine ⟨fun _ => (by first | exact fun _ h => h | exact ent), ?_⟩
     refine Of rfl (po_assign rfl) ?_
     refine o_nil ?_
     refine Aw (Rt ?_)
     refine at_ret1 rfl (rv_tmp rfl) ⟨_, ⟨by rw [globalN, if_pos ⟨hs, by omega, by omega⟩, cellN, if_pos ⟨hs.1, hg1, hg2⟩], rfl⟩, ?_⟩
     try dsimp only [ca, na]
     exact ent
  ·skip
   refine Sq (Rg ?_)
   refine rp 1 rfl ?_
   refine Sn (Aw (Sq (Rg ?_)))
   refine rp 3 rfl ?_
   refine Wc (co_fn rfl rfl) (where_corner w h s) ?_
   rintro v18 _ ⟨rfl, rfl⟩
   try dsimp only [ca, na]
   rw [if_neg hs]
   refine rp 7 rfl ?_
   refine Sn (Aw (Sq (Rg ?_)))
   refine rp 3 rfl ?_
   refine Wc (co_fn rfl rfl) (where_Size w h s) ?_
   rintro v26 _ ⟨rfl, rfl⟩
   try dsimp only [ca, na]
   refine rp 5 rfl ?_
   refine Sn (Aw (Sq (Sq (Rg ?_))))
   refine rp 1 rfl ?_
   refine Wp (po_not rfl) ?_
   refine Wp (po_bt (po_move rfl) (rfl)) ?_
   refine rp 10 rfl ?_
   refine Sn (Aw ?_)
   refine r_cond_t rfl rfl ?_
   refine Sq (Rg ?_)
   refine rp 1 rfl ?_
   refine Sn (Aw (Rt (Ar ?_)))
   refine at_ret1 rfl (rv_tmp rfl) ⟨_, ⟨by rw [globalN, if_neg (fun k => hs k.1)], rfl⟩, ?_⟩
   try dsimp only [ca, na]
   exact ent

theorem where_Step (w h c s : Int) : Spec PP 74 #[.int .i64 w, .int .i64 h, .int .i64 c, .int .i64 s] [] (fun v M => v = .int .i64 (stepN w h c s) ∧ M = []) := by
  refine spec_of (Go.Proofs.Tryz.func74) rfl rfl rfl (by exact fc_enters_74) ?_
  intro g F
  try dsimp only [ca, na]
  by_cases hc : IsC w h c
  ·skip
   refine Sq (Rg ?_)
   refine rp 1 rfl ?_
   refine Sn (Aw (Sq (Rg ?_)))
   refine rp 3 rfl ?_
   refine Wc (co_fn rfl rfl) (where_Place w h c) ?_
   rintro v16 _ ⟨rfl, rfl⟩
   try dsimp only [ca, na]
   rw [if_pos hc]
   have hxy := isc_xy hc
   refine rp 5 rfl ?_
   refine Sn (Aw (Sq (Sq (Rg ?_))))
   refine rp 1 rfl ?_
   refine Wp (po_lt rfl rfl) ?_
   refine Sn (Aw ?_)
   first | refine r_dec_f rfl (by omega) ?_ | refine r_nd_f rfl (by omega) ?_ | refine r_cond_f rfl (by omega) ?_
   refine Sk (Aw (Sq (Rg ?_)))
   refine rp 1 rfl ?_
   refine Sn (Aw (Sq (Sq (Rg ?_))))
   refine rp 1 rfl ?_
   refine Sn (Aw (Bk (Sq (Bk (Sq (Bk (Sq (Bk (Sq (Bk (Sq (Bk (Sq (Bk (Sq (Sq (Sq (Rg ?_))))))))))))))))))
   refine Wp (po_eq rfl rfl) ?_
   refine rp 1 rfl ?_
   refine Sn (Aw ?_)
   refine Rc rfl ?_ ?_
   ·skip
    intro e0
    refine Ex' (Ax (Ax (Bh (Aw (Rg ?_)))))
    refine rp 1 rfl ?_
    refine Sn (Bn (Aw (Sq (Rg ?_))))
    refine rp 2 rfl ?_
    refine Wp (po_add' rfl rfl (by omega) (by omega)) ?_
    refine rp 1 rfl ?_
    refine Sn (Aw (Ex' ?_))
    refine at_block_there rfl ?_
    refine Ax ?_
    refine at_block_there rfl ?_
    refine Ax ?_
    refine at_block_there rfl ?_
    refine Ax ?_
    refine at_block_there rfl ?_
    refine Ax (Bh (Aw (Sq (Rg ?_))))
    refine rp 4 rfl ?_
    refine Wc (co_fn rfl rfl) (where_Cell w h _ _) ?_
    rintro v42 _ ⟨rfl, rfl⟩
    try dsimp only [ca, na]
    refine rp 1 rfl ?_
    refine Sn (Aw (Rt ?_))
    refine at_ret1 rfl (rv_tmp rfl) ⟨_, ⟨by rw [stepN, if_pos hc, if_pos e0]; rfl, rfl⟩, ?_⟩
    try dsimp only [ca, na]
    exact ent
   ·skip
    intro e0
    refine Sk (Aw (Sq (Sq (Rg ?_))))
    refine Wp (po_eq rfl rfl) ?_
    refine rp 1 rfl ?_
    refine Sn (Aw ?_)
    refine Rc rfl ?_ ?_
    ·skip
     intro e2
     refine Ex' (Ax (Ax ?_))
     refine at_block_there rfl ?_
     refine Ax (Bh (Aw (Sq (Rg ?_))))
     refine rp 2 rfl ?_
     refine Wp (po_add' rfl rfl (by omega) (by omega)) ?_
     refine rp 1 rfl ?_
     refine Sn (Aw (Ex' ?_))
     refine at_block_there rfl ?_
     refine Ax ?_
     refine at_block_there rfl ?_
     refine Ax ?_
     refine at_block_there rfl ?_
     refine Ax ?_
     refine at_block_there rfl ?_
     refine Ax (Bh (Aw (Sq (Rg ?_))))
     refine rp 4 rfl ?_
     refine Wc (co_fn rfl rfl) (where_Cell w h _ _) ?_
     rintro v42 _ ⟨rfl, rfl⟩
     try dsimp only [ca, na]
     refine rp 1 rfl ?_
     refine Sn (Aw (Rt ?_))
     refine at_ret1 rfl (rv_tmp rfl) ⟨_, ⟨by rw [stepN, if_pos hc, if_neg e0, if_neg (by omega), if_pos e2], rfl⟩, ?_⟩
     try dsimp only [ca, na]
     exact ent
    ·skip
     intro e2
     refine Sk (Aw (Sq (Sq (Rg ?_))))
     refine Wp (po_eq rfl rfl) ?_
     refine rp 1 rfl ?_
     refine Sn (Aw ?_)
     refine Rc rfl ?_ ?_
     ·skip
      intro e3
      refine Ex' (Ax (Ax ?_))
      refine at_block_there rfl ?_
      refine Ax ?_
      refine at_block_there rfl ?_
      refine Ax (Bh (Aw (Rg ?_)))
      refine rp 1 rfl ?_
      refine Sn (Bn (Aw (Sq (Rg ?_))))
      refine rp 2 rfl ?_
      refine Wp (po_add' rfl rfl (by omega) (by omega)) ?_
      refine rp 1 rfl ?_
      refine Sn (Aw (Ex' ?_))
      refine at_block_there rfl ?_
      refine Ax ?_
      refine at_block_there rfl ?_
      refine Ax (Bh (Aw (Sq (Rg ?_))))
      refine rp 4 rfl ?_
      refine Wc (co_fn rfl rfl) (where_Cell w h _ _) ?_
      rintro v42 _ ⟨rfl, rfl⟩
      try dsimp only [ca, na]
      refine rp 1 rfl ?_
      refine Sn (Aw (Rt ?_))
      refine at_ret1 rfl (rv_tmp rfl) ⟨_, ⟨by rw [stepN, if_pos hc, if_neg e0, if_neg (by omega), if_neg e2, if_pos e3]; rfl, rfl⟩, ?_⟩
      try dsimp only [ca, na]
      exact ent
     ·skip
      intro e3
      refine Sk (Aw (Sq (Sq (Rg ?_))))
      refine Wp (po_eq rfl rfl) ?_
      refine rp 1 rfl ?_
      refine Sn (Aw ?_)
      refine Rc rfl ?_ ?_
      ·skip
       intro e1
       refine Ex' (Ax (Ax ?_))
       refine at_block_there rfl ?_
       refine Ax ?_
       refine at_block_there rfl ?_
       refine Ax ?_
       refine at_block_there rfl ?_
       refine Ax (Bh (Aw (Sq (Rg ?_))))
       refine rp 2 rfl ?_
       refine Wp (po_add' rfl rfl (by omega) (by omega)) ?_
       refine rp 1 rfl ?_
       refine Sn (Aw (Ex' ?_))
       refine at_block_there rfl ?_
       refine Ax ?_
       refine at_block_there rfl ?_
       refine Ax (Bh (Aw (Sq (Rg ?_))))
       refine rp 4 rfl ?_
       refine Wc (co_fn rfl rfl) (where_Cell w h _ _) ?_
       rintro v42 _ ⟨rfl, rfl⟩
       try dsimp only [ca, na]
       refine rp 1 rfl ?_
       refine Sn (Aw (Rt ?_))
       refine at_ret1 rfl (rv_tmp rfl) ⟨_, ⟨by rw [stepN, if_pos hc, if_neg e0, if_pos e1], rfl⟩, ?_⟩
       try dsimp only [ca, na]
       exact ent
      ·skip
       intro e1
       refine Sk (Aw (Sq (Rg ?_)))
       refine Wp (po_eq rfl rfl) ?_
       refine rp 1 rfl ?_
       refine Sn (Aw ?_)
       refine Rc rfl ?_ ?_
       ·skip
        intro e4
        refine Ex' (Ax ?_)
        refine at_block_there rfl ?_
        refine Ax ?_
        refine at_block_there rfl ?_
        refine Ax ?_
        refine at_block_there rfl ?_
        refine Ax ?_
        refine at_block_there rfl ?_
        refine Ax (Bh (Aw (Ex' ?_)))
        refine at_block_there rfl ?_
        refine Ax (Bh (Aw (Sq (Rg ?_))))
        refine rp 4 rfl ?_
        refine Wc (co_fn rfl rfl) (where_Cell w h _ _) ?_
        rintro v42 _ ⟨rfl, rfl⟩
        try dsimp only [ca, na]
        refine rp 1 rfl ?_
        refine Sn (Aw (Rt ?_))
        refine at_ret1 rfl (rv_tmp rfl) ⟨_, ⟨by rw [stepN, if_pos hc, if_neg e0, if_neg e1, if_neg e2, if_neg e3, if_pos e4], rfl⟩, ?_⟩
        try dsimp only [ca, na]
        exact ent
       ·skip
        intro e4
        refine Sk (Aw (Ex' ?_))
        refine at_block_there rfl ?_
        refine Ax ?_
        refine at_block_there rfl ?_
        refine Ax ?_
        refine at_block_there rfl ?_
        refine Ax ?_
        refine at_block_there rfl ?_
        refine Ax ?_
        refine at_block_there rfl ?_
        refine Ax (Bh (Aw (Sq (Sq (Rg ?_)))))
        refine rp 1 rfl ?_
        refine Sn (Aw (Rt (Ar (Br (Ar ?_)))))
        refine at_ret1 rfl (rv_tmp rfl) ⟨_, ⟨by rw [stepN, if_pos hc, if_neg e0, if_neg e1, if_neg e2, if_neg e3, if_neg e4], rfl⟩, ?_⟩
        try dsimp only [ca, na]
        exact ent
  ·skip
   refine Sq (Rg ?_)
   refine rp 1 rfl ?_
   refine Sn (Aw (Sq (Rg ?_)))
   refine rp 3 rfl ?_
   refine Wc (co_fn rfl rfl) (where_Place w h c) ?_
   rintro v16 _ ⟨rfl, rfl⟩
   try dsimp only [ca, na]
   rw [if_neg hc]
   refine rp 5 rfl ?_
   refine Sn (Aw (Sq (Sq (Rg ?_))))
   refine rp 1 rfl ?_
   refine Wp (po_lt rfl rfl) ?_
   refine Sn (Aw ?_)
   first | refine r_dec_t rfl (by omega) ?_ | refine r_nd_t rfl (by omega) ?_ | refine r_cond_t rfl (by omega) ?_
   refine Sq (Rg ?_)
   refine rp 1 rfl ?_
   refine Sn (Aw (Rt (Ar ?_)))
   refine at_ret1 rfl (rv_tmp rfl) ⟨_, ⟨by rw [stepN, if_neg hc], rfl⟩, ?_⟩
   try dsimp only [ca, na]
   exact ent
end Hd
end
section
namespace Hd
set_option maxRecDepth 100000
open Go

abbrev mapV (w h : Int) (cv : Value) : Value := .agg #[.int .i64 w, .int .i64 h, cv]
/-- 4.1 -/
def MayM (w h : Int) (c : List Int) : Prop := May w h ∧ (c.length : Int) = w * h ∧ (0 : Int) ∉ c
instance (w h : Int) (c : List Int) : Decidable (MayM w h c) := by unfold MayM; infer_instance

theorem atlas_May (w h : Int) (cv : Value) (c : List Int) (hl : c.length ≤ 2^30) : Spec PP 59 #[mapV w h cv] [Sl eB cv c] (fun v M => v = .bool (decide (MayM w h c)) ∧ M = [Sl eB cv c]) := by
  refine spec_of (Go.Proofs.Tryz.func59) rfl rfl rfl (by exact fc_enters_59) ?_
  intro g F
  try dsimp only [ca, na, GridS.l, GridS.p]
  refine Sq (Rg ?_)
  refine Wx (xo_box rfl rfl) ?_
  rintro _ _ ⟨b1, rfl, rfl⟩
  refine rp 1 rfl ?_
  refine Sn (Aw (Sq (Rg ?_)))
  refine Wp (po_faddr rfl (by exact fc_field_24_0_0)) ?_
  refine Wp (po_load rfl (by exact fc_flat_3) (by rfl)) ?_
  refine Wp (po_faddr rfl (by exact fc_field_24_1_1)) ?_
  refine Wp (po_load rfl (by exact fc_flat_3) (by rfl)) ?_
  refine Wc (co_fn rfl rfl) (where_May w h) ?_
  rintro v7 _ ⟨rfl, rfl⟩
  try dsimp only [ca, na, GridS.l, GridS.p]
  by_cases h1 : May w h
  ·skip
   refine ws (st_po (po_bt (po_move rfl) (decide_eq_true h1)) rfl rfl rfl ?_)
   have hb := may_mul h1
   refine Wp (po_faddr rfl (by exact fc_field_24_2_2)) ?_
   refine Wp (po_load rfl (by exact fc_flat_22) (by rfl)) ?_
   refine Wp (po_len rfl (by exact fc_slice_22_5_1)) ?_
   refine Wp (po_faddr rfl (by exact fc_field_24_0_0)) ?_
   refine Wp (po_load rfl (by exact fc_flat_3) (by rfl)) ?_
   refine Wp (po_faddr rfl (by exact fc_field_24_1_1)) ?_
   refine Wp (po_load rfl (by exact fc_flat_3) (by rfl)) ?_
   refine Wp (po_mul' rfl rfl (by omega) (by omega)) ?_
   refine Wp (po_eq rfl rfl) ?_
   refine rp 1 rfl ?_
   by_cases h2 : (c.length : Int) = w * h
   ·skip
    refine ws (st_po (po_bt (po_move rfl) (decide_eq_true h2)) rfl rfl rfl ?_)
    refine Wp (po_faddr rfl (by exact fc_field_24_2_2)) ?_
    refine Wp (po_load rfl (by exact fc_flat_22) (by rfl)) ?_
    refine Wc (co_fn rfl rfl) (contains_B cv c 0 hl) ?_
    rintro v22 _ ⟨rfl, rfl⟩
    try dsimp only [ca, na, GridS.l, GridS.p]
    refine Wp (po_not rfl) ?_
    refine rp 2 rfl ?_
    refine Sn (Aw (Rt ?_))
    refine at_ret1 rfl (rv_tmp rfl) ⟨_, ⟨by simp [MayM, h1, h2], rfl⟩, ?_⟩
    try dsimp only [ca, na, GridS.l, GridS.p]
    exact ent
   ·skip
    refine ws (st_po (po_bf (po_move rfl) (decide_eq_false h2)) rfl rfl rfl ?_)
    refine rp 6 rfl ?_
    refine Sn (Aw (Rt ?_))
    refine at_ret1 rfl (rv_tmp rfl) ⟨_, ⟨by simp [MayM, h1, h2], rfl⟩, ?_⟩
    try dsimp only [ca, na, GridS.l, GridS.p]
    exact ent
  ·skip
   refine ws (st_po (po_bf (po_move rfl) (decide_eq_false h1)) rfl rfl rfl ?_)
   refine rp 17 rfl ?_
   refine Sn (Aw (Rt ?_))
   refine at_ret1 rfl (rv_tmp rfl) ⟨_, ⟨by simp [MayM, h1], rfl⟩, ?_⟩
   try dsimp only [ca, na, GridS.l, GridS.p]
   exact ent

def fill2 {α : Type} (a z : α) (n k : Nat) : List α := List.replicate k a ++ List.replicate (n - k) z
theorem fill2_0 {α : Type} (a z : α) (n : Nat) : List.replicate n z = fill2 a z n 0 := by simp [fill2]
theorem fill2_n {α : Type} (a z : α) (n : Nat) : fill2 a z n n = List.replicate n a := by simp [fill2]
theorem fill2_len {α : Type} (a z : α) {n k : Nat} (h : k ≤ n) : (fill2 a z n k).length = n := by simp [fill2]; omega
theorem fill2_set {α : Type} (a z : α) {k n : Nat} (h : k < n) : (fill2 a z n k).set k a = fill2 a z n (k + 1) := by
  unfold fill2
  rw [List.set_append_right _ _ (by simp), List.length_replicate, Nat.sub_self, show n - k = (n - (k + 1)) + 1 by omega, List.replicate_succ, List.set_cons_zero, List.replicate_succ']
  simp

/-- New, of a map that may be, behind an epoch that may be -/
theorem grid_New (w h ep : Int) (cv : Value) (c : List Int) (hm : MayM w h c) (h0 : 0 ≤ ep) (h1 : ep ≤ 4611686018427387904) :
    Spec PP 28 #[mapV w h cv, .int .i64 ep] [Sl eB cv c] (fun v M => ∃ s : GridS, v = s.p ∧ M = Sl eB cv c :: s.l ∧ s.w = w ∧ s.h = h ∧ s.c = c ∧ s.ep = ep + 1 ∧ s.vs = List.replicate ((secsN w h).1 * (secsN w h).2).toNat (ep + 1)) := by
  have hb := may_mul hm.1
  have hl : c.length ≤ 2^30 := by have := hm.2.1; omega
  refine spec_of (Go.Proofs.Tryz.func28) rfl rfl rfl (by exact fc_enters_28) ?_
  intro g F
  try dsimp only [ca, na, GridS.l, GridS.p]
  refine Sq (Rg ?_)
  refine Wx (xo_box rfl rfl) ?_
  rintro _ _ ⟨b2, rfl, rfl⟩
  refine rp 1 rfl ?_
  refine Sn (Aw (Sq (Sq (Rg ?_))))
  refine Wp (po_loada rfl (by exact fc_agg_24_3) (by rfl)) ?_
  refine Wc (co_fn rfl rfl) (atlas_May w h cv c hl) ?_
  rintro v10 _ ⟨rfl, rfl⟩
  try dsimp only [ca, na, GridS.l, GridS.p]
  refine Wp (po_not rfl) ?_
  refine Wp (po_bf (po_move rfl) (by simp [hm])) ?_
  refine rp 1 rfl ?_
  refine Wp (po_lt rfl rfl) ?_
  refine rp 1 rfl ?_
  refine Wp (po_bf (po_move rfl) (decide_eq_false (by omega))) ?_
  refine rp 1 rfl ?_
  refine Wp (po_gt rfl rfl) ?_
  refine rp 1 rfl ?_
  refine Sn (Aw ?_)
  first | refine r_dec_f rfl (by omega) ?_ | refine r_nd_f rfl (by omega) ?_ | refine r_cond_f rfl (by omega) ?_
  refine Sk (Aw (Sq (Rg ?_)))
  refine Wp (po_faddr rfl (by exact fc_field_24_2_2)) ?_
  refine Wp (po_load rfl (by exact fc_flat_22) (by rfl)) ?_
  refine Wc (co_fn rfl rfl) (clone_B cv c hl) ?_
  rintro v22 _ rfl
  try dsimp only [ca, na, GridS.l, GridS.p]
  refine Wp (po_faddr rfl (by exact fc_field_24_2_2)) ?_
  refine Ws (so_store1 rfl rfl (by exact fc_flat_22) rfl) ?_
  refine Sn (Aw (Sq (Rg ?_)))
  refine Wp (po_faddr rfl (by exact fc_field_24_0_0)) ?_
  refine Wp (po_load rfl (by exact fc_flat_3) (by rfl)) ?_
  refine Wp (po_faddr rfl (by exact fc_field_24_1_1)) ?_
  refine Wp (po_load rfl (by exact fc_flat_3) (by rfl)) ?_
  refine Wc (co_fn rfl rfl) (where_Sectors w h) ?_
  rintro v29 _ ⟨rfl, rfl⟩
  try dsimp only [ca, na, GridS.l, GridS.p]
  have hs := secs_mul w h
  refine rp 5 rfl ?_
  refine Sn (Aw (Sq ?_))
  refine r_ord [] _ [(0, 0), (1, 1), (2, 1), (3, 1), (4, 1), (5, 1), (6, 2), (7, 2), (8, 2), (9, 1)] fc_mixed (by kernel_rfl) (fun _ h => h) ?_
  refine Or rfl (po_loada rfl (by exact fc_agg_24_3) (by rfl)) ?_
  refine Of rfl (po_move rfl) ?_
  refine Of rfl (po_add' rfl rfl (by omega) (by omega)) ?_
  refine Of rfl (po_move rfl) ?_
  refine Of rfl (po_move rfl) ?_
  refine Of rfl (po_mul' rfl rfl (by omega) (by omega)) ?_
  refine o_st rfl (st_xo (xo_make eL (0) rfl rfl (by exact fc_slice_79_2_1) (by exact fc_elem_2_1_8) (by exact fc_zero_2) rfl (by first | omega | (simp <;> omega)) (by first | omega | (simp <;> omega)) (by first | omega | (simp <;> omega))) rfl rfl rfl ?_)
  rintro v38 _ rfl
  refine ⟨fun _ => (by first | exact fun _ h => h | exact ent), ?_⟩
  refine o_st rfl (st_po (po_build1 rfl (by exact fc_zero_81) (by exact fc_places_81_0_1_2) (by exact fc_info_81) rfl) rfl rfl rfl ?_)
  refine ⟨fun _ => (by first | exact fun _ h => h | exact ent), ?_⟩
  refine o_st rfl (st_xo (xo_box rfl rfl) rfl rfl rfl ?_)
  rintro _ _ ⟨b40, rfl, rfl⟩
  refine ⟨fun _ => (by first | exact fun _ h => h | exact ent), ?_⟩
  refine Of rfl (po_assign rfl) ?_
  refine o_nil ?_
  refine Aw (Sq (Sq (Rg ?_)))
  refine rp 2 rfl ?_
  refine Wp (po_faddr rfl (by exact fc_field_81_2_4)) ?_
  refine Wp (po_load rfl (by exact fc_flat_79) (by rfl)) ?_
  refine Wp (po_len rfl (by exact fc_slice_79_2_1)) ?_
  refine rp 1 rfl ?_
  refine Sn (Aw (Bk ?_))
  simp only [List.length_replicate]
  rw [fill2_0 (ep + 1) 0]
  refine r_loop (S := Nat) (fun k => [(46, .int .i64 k)]) [(7, _), (45, _)] (fun k => [Blk b40 81 [.int .i64 w, .int .i64 h, v22, .int .i64 (ep + 1), v38], Sl eB v22 c, Sl eL v38 (fill2 (ep + 1) 0 ((secsN w h).1 * (secsN w h).2).toNat k), Sl eB cv c, F]) (fun k => k ≤ ((secsN w h).1 * (secsN w h).2).toNat) (fun k => ((secsN w h).1 * (secsN w h).2).toNat - k) (0) (And.intro rfl (And.intro rfl (trivial))) (And.intro rfl (trivial)) (by omega) ent ?_
  rintro k hk
  try dsimp only [ca, na, GridS.l, GridS.p]
  refine Sq (Rg ?_)
  refine Wp (po_lt rfl rfl) ?_
  refine Sn (Aw (Sq ?_))
  refine Rc rfl ?_ ?_
  ·skip
   intro hlt
   have hll := fill2_len (ep + 1) 0 hk
   refine Sk (Aw (Sq (Bk (Sq (Rg ?_)))))
   refine rp 2 rfl ?_
   refine Sn (Aw ?_)
   refine r_ord [10] _ [(0, 1), (1, 1), (2, 1), (3, 0), (4, 1), (5, 1), (6, 1), (7, 1), (8, 0), (9, 0), (10, 2)] fc_mixed (by kernel_rfl) (fun _ h => h) ?_
   refine Of rfl (po_move rfl) ?_
   refine Of rfl (po_nil rfl) ?_
   refine Of rfl (po_faddr rfl (by exact fc_field_81_2_4)) ?_
   refine Or rfl (po_load rfl (by exact fc_flat_79) (by rfl)) ?_
   refine Of rfl (po_move rfl) ?_
   refine Of rfl (po_move rfl) ?_
   refine Of rfl (po_nil rfl) ?_
   refine Of rfl (po_faddr rfl (by exact fc_field_81_1_3)) ?_
   refine Or rfl (po_load rfl (by exact fc_flat_2) (by rfl)) ?_
   refine Or rfl (po_iaddr rfl rfl (by exact fc_slice_79_2_1) (by first | omega | (simp <;> omega)) (by first | omega | (simp <;> omega))) ?_
   refine o_st rfl (st_so (so_store_sl rfl rfl (List.getElem?_eq_getElem (by first | omega | (simp <;> omega))) (by exact fc_flat_2) (by decide) (by rfl) (by rfl)) rfl rfl ?_)
   refine ⟨fun h => late_no h (by kernel_rfl), ?_⟩
   refine o_nil ?_
   refine Bn (Aw (Rg ?_))
   refine Wp (po_add' rfl rfl (by omega) (by omega)) ?_
   refine rp 1 rfl ?_
   refine Sn ?_
   simp only [Int.toNat_natCast]
   rw [fill2_set _ _ (by omega)]
   exact at_again (k + 1) (And.intro rfl (trivial)) (And.intro rfl (And.intro rfl (trivial))) (by omega) (by omega) ent
  ·skip
   intro hlt
   refine Ex' (Ax (Ax (Bh (Aw (Sq (Rg ?_))))))
   refine rp 2 rfl ?_
   refine Sn (Aw (Rt ?_))
   rw [show k = ((secsN w h).1 * (secsN w h).2).toNat by omega, fill2_n]
   refine at_ret1 rfl (rv_tmp rfl) ⟨_, ⟨⟨b40, w, h, v22, c, ep + 1, v38, _⟩, rfl, rfl, rfl, rfl, rfl, rfl, rfl⟩, ?_⟩
   try dsimp only [ca, na, GridS.l, GridS.p]
   exact ent

theorem grid_Size (s : GridS) : Spec PP 38 #[s.p] s.l (fun v M => v = .tuple #[.int .i64 s.w, .int .i64 s.h] ∧ M = s.l) := by
  refine spec_of (Go.Proofs.Tryz.func38) rfl rfl rfl (by exact fc_enters_38) ?_
  intro g F
  try dsimp only [ca, na, GridS.l, GridS.p]
  refine Sq (Rg ?_)
  refine rp 2 rfl ?_
  refine Sn (Aw (Sq (Sq (Rg ?_))))
  refine rp 1 rfl ?_
  refine Wp (po_peq rfl rfl (by exact fc_ptr_27)) ?_
  refine Sn (Aw ?_)
  refine r_cond_f rfl (rfl) ?_
  refine Sk (Aw (Sq ?_))
  refine r_ord [] _ [(0, 1), (1, 1), (2, 1), (3, 1), (4, 0), (5, 1), (6, 1), (7, 1), (8, 1), (9, 0), (10, 1), (11, 1)] fc_mixed (by kernel_rfl) (fun _ h => h) ?_
  refine Of rfl (po_move rfl) ?_
  refine Of rfl (po_nil rfl) ?_
  refine Of rfl (po_faddr rfl (by exact fc_field_81_0_0)) ?_
  refine Of rfl (po_faddr rfl (by exact fc_field_24_0_0)) ?_
  refine Or rfl (po_load rfl (by exact fc_flat_3) (by rfl)) ?_
  refine Of rfl (po_move rfl) ?_
  refine Of rfl (po_nil rfl) ?_
  refine Of rfl (po_faddr rfl (by exact fc_field_81_0_0)) ?_
  refine Of rfl (po_faddr rfl (by exact fc_field_24_1_1)) ?_
  refine Or rfl (po_load rfl (by exact fc_flat_3) (by rfl)) ?_
  refine Of rfl (po_assign rfl) ?_
  refine Of rfl (po_assign rfl) ?_
  refine o_nil ?_
  refine Aw (Rt ?_)
  refine at_ret2 rfl (rv_tmp rfl) (rv_tmp rfl) ⟨_, ⟨rfl, rfl⟩, ?_⟩
  try dsimp only [ca, na, GridS.l, GridS.p]
  exact ent
theorem grid_Size0 : Spec PP 38 #[.pointer none] [] (fun v M => v = .tuple #[.int .i64 0, .int .i64 0] ∧ M = []) := by
  refine spec_of (Go.Proofs.Tryz.func38) rfl rfl rfl (by exact fc_enters_38) ?_
  intro g F
  try dsimp only [ca, na, GridS.l, GridS.p]
  refine Sq (Rg ?_)
  refine rp 2 rfl ?_
  refine Sn (Aw (Sq (Sq (Rg ?_))))
  refine rp 1 rfl ?_
  refine Wp (po_peq rfl rfl (by exact fc_ptr_27)) ?_
  refine Sn (Aw ?_)
  refine r_cond_t rfl (rfl) ?_
  refine Sq (Rg ?_)
  refine rp 2 rfl ?_
  refine Sn (Aw (Rt (Ar ?_)))
  refine at_ret2 rfl (rv_tmp rfl) (rv_tmp rfl) ⟨_, ⟨rfl, rfl⟩, ?_⟩
  try dsimp only [ca, na, GridS.l, GridS.p]
  exact ent

/-- a cell's cost -/
def costN (c : List Int) (i : Int) : Int := if 0 ≤ i ∧ i < c.length then cAt c i else 0
theorem grid_Cost (s : GridS) (i : Int) (hc : Bytes s.c) : Spec PP 47 #[s.p, .int .i64 i] s.l (fun v M => v = .int .i64 (costN s.c i) ∧ M = s.l) := by
  refine spec_of (Go.Proofs.Tryz.func47) rfl rfl rfl (by exact fc_enters_47) ?_
  intro g F
  try dsimp only [ca, na, GridS.l, GridS.p]
  refine Sq (Rg ?_)
  refine rp 1 rfl ?_
  refine Sn (Aw (Sq (Sq (Rg ?_))))
  refine rp 1 rfl ?_
  refine Wp (po_peq rfl rfl (by exact fc_ptr_27)) ?_
  refine Wp (po_bf (po_move rfl) (rfl)) ?_
  refine rp 1 rfl ?_
  refine Wp (po_lt rfl rfl) ?_
  refine rp 1 rfl ?_
  by_cases h1 : i < 0
  ·skip
   refine ws (st_po (po_bt (po_move rfl) (decide_eq_true h1)) rfl rfl rfl ?_)
   refine rp 9 rfl ?_
   refine Sn (Aw ?_)
   refine r_cond_t rfl rfl ?_
   refine Sq (Rg ?_)
   refine rp 1 rfl ?_
   refine Sn (Aw (Rt (Ar ?_)))
   refine at_ret1 rfl (rv_tmp rfl) ⟨_, ⟨by rw [costN, if_neg (by omega)], rfl⟩, ?_⟩
   try dsimp only [ca, na, GridS.l, GridS.p]
   exact ent
  ·skip
   refine ws (st_po (po_bf (po_move rfl) (decide_eq_false h1)) rfl rfl rfl ?_)
   refine rp 3 rfl ?_
   refine Wp (po_faddr rfl (by exact fc_field_81_0_0)) ?_
   refine Wp (po_faddr rfl (by exact fc_field_24_2_2)) ?_
   refine Wp (po_load rfl (by exact fc_flat_22) (by rfl)) ?_
   refine Wp (po_len rfl (by exact fc_slice_22_5_1)) ?_
   refine Wp (po_ge rfl rfl) ?_
   refine rp 1 rfl ?_
   refine Sn (Aw ?_)
   refine Rc rfl ?_ ?_
   ·skip
    intro h2
    refine Sq (Rg ?_)
    refine rp 1 rfl ?_
    refine Sn (Aw (Rt (Ar ?_)))
    refine at_ret1 rfl (rv_tmp rfl) ⟨_, ⟨by rw [costN, if_neg (by omega)], rfl⟩, ?_⟩
    try dsimp only [ca, na, GridS.l, GridS.p]
    exact ent
   ·skip
    intro h2
    have hx := hc.get (i := i.toNat) (by omega)
    refine Sk (Aw (Sq (Rg ?_)))
    refine rp 2 rfl ?_
    refine Wp (po_faddr rfl (by exact fc_field_81_0_0)) ?_
    refine Wp (po_faddr rfl (by exact fc_field_24_2_2)) ?_
    refine Wp (po_load rfl (by exact fc_flat_22) (by rfl)) ?_
    refine rp 1 rfl ?_
    refine Wp (po_iaddr rfl rfl (by exact fc_slice_22_5_1) (by first | omega | (simp <;> omega)) (by first | omega | (simp <;> omega))) ?_
    refine Wp (po_load_sl rfl (List.getElem?_eq_getElem (by first | omega | (simp <;> omega))) (by exact fc_flat_5) (by rfl)) ?_
    refine Wp (po_conv_w rfl (by exact fc_int_5_u8) (by exact fc_int_3_i64) (wrap_i64 _ (by omega) (by omega))) ?_
    refine rp 1 rfl ?_
    refine Sn (Aw (Rt ?_))
    refine at_ret1 rfl (rv_tmp rfl) ⟨_, ⟨by rw [costN, if_pos (by omega), cAt_get (by omega)], rfl⟩, ?_⟩
    try dsimp only [ca, na, GridS.l, GridS.p]
    exact ent

theorem grid_Epoch (s : GridS) : Spec PP 40 #[s.p] s.l (fun v M => v = .int .i64 s.ep ∧ M = s.l) := by
  refine spec_of (Go.Proofs.Tryz.func40) rfl rfl rfl (by exact fc_enters_40) ?_
  intro g F
  try dsimp only [ca, na, GridS.l, GridS.p]
  refine Sq (Rg ?_)
  refine rp 1 rfl ?_
  refine Sn (Aw (Sq (Sq (Rg ?_))))
  refine rp 1 rfl ?_
  refine Wp (po_peq rfl rfl (by exact fc_ptr_27)) ?_
  refine Sn (Aw ?_)
  refine r_cond_f rfl (rfl) ?_
  refine Sk (Aw (Sq (Rg ?_)))
  refine rp 2 rfl ?_
  refine Wp (po_faddr rfl (by exact fc_field_81_1_3)) ?_
  refine Wp (po_load rfl (by exact fc_flat_2) (by rfl)) ?_
  refine rp 1 rfl ?_
  refine Sn (Aw (Rt ?_))
  refine at_ret1 rfl (rv_tmp rfl) ⟨_, ⟨rfl, rfl⟩, ?_⟩
  try dsimp only [ca, na, GridS.l, GridS.p]
  exact ent
theorem grid_Epoch0 : Spec PP 40 #[.pointer none] [] (fun v M => v = .int .i64 0 ∧ M = []) := by
  refine spec_of (Go.Proofs.Tryz.func40) rfl rfl rfl (by exact fc_enters_40) ?_
  intro g F
  try dsimp only [ca, na, GridS.l, GridS.p]
  refine Sq (Rg ?_)
  refine rp 1 rfl ?_
  refine Sn (Aw (Sq (Sq (Rg ?_))))
  refine rp 1 rfl ?_
  refine Wp (po_peq rfl rfl (by exact fc_ptr_27)) ?_
  refine Sn (Aw ?_)
  refine r_cond_t rfl (rfl) ?_
  refine Sq (Rg ?_)
  refine rp 1 rfl ?_
  refine Sn (Aw (Rt (Ar ?_)))
  refine at_ret1 rfl (rv_tmp rfl) ⟨_, ⟨rfl, rfl⟩, ?_⟩
  try dsimp only [ca, na, GridS.l, GridS.p]
  exact ent
theorem grid_Version (s : GridS) (i : Int) : Spec PP 116 #[s.p, .int .i64 i] s.l (fun v M => v = .int .i64 (if 0 ≤ i ∧ i < s.vs.length then cAt s.vs i else 0) ∧ M = s.l) := by
  refine spec_of (Go.Proofs.Tryz.func116) rfl rfl rfl (by exact fc_enters_116) ?_
  intro g F
  try dsimp only [ca, na, GridS.l, GridS.p]
  refine Sq (Rg ?_)
  refine rp 1 rfl ?_
  refine Sn (Aw (Sq (Sq (Rg ?_))))
  refine rp 1 rfl ?_
  refine Wp (po_peq rfl rfl (by exact fc_ptr_27)) ?_
  refine Wp (po_bf (po_move rfl) (rfl)) ?_
  refine rp 1 rfl ?_
  refine Wp (po_lt rfl rfl) ?_
  refine rp 1 rfl ?_
  by_cases h1 : i < 0
  ·skip
   refine ws (st_po (po_bt (po_move rfl) (decide_eq_true h1)) rfl rfl rfl ?_)
   refine rp 8 rfl ?_
   refine Sn (Aw ?_)
   refine r_cond_t rfl rfl ?_
   refine Sq (Rg ?_)
   refine rp 1 rfl ?_
   refine Sn (Aw (Rt (Ar ?_)))
   refine at_ret1 rfl (rv_tmp rfl) ⟨_, ⟨by rw [if_neg (by omega)], rfl⟩, ?_⟩
   try dsimp only [ca, na, GridS.l, GridS.p]
   exact ent
  ·skip
   refine ws (st_po (po_bf (po_move rfl) (decide_eq_false h1)) rfl rfl rfl ?_)
   refine rp 3 rfl ?_
   refine Wp (po_faddr rfl (by exact fc_field_81_2_4)) ?_
   refine Wp (po_load rfl (by exact fc_flat_79) (by rfl)) ?_
   refine Wp (po_len rfl (by exact fc_slice_79_2_1)) ?_
   refine Wp (po_ge rfl rfl) ?_
   refine rp 1 rfl ?_
   refine Sn (Aw ?_)
   refine Rc rfl ?_ ?_
   ·skip
    intro h2
    refine Sq (Rg ?_)
    refine rp 1 rfl ?_
    refine Sn (Aw (Rt (Ar ?_)))
    refine at_ret1 rfl (rv_tmp rfl) ⟨_, ⟨by rw [if_neg (by omega)], rfl⟩, ?_⟩
    try dsimp only [ca, na, GridS.l, GridS.p]
    exact ent
   ·skip
    intro h2
    refine Sk (Aw (Sq (Rg ?_)))
    refine rp 2 rfl ?_
    refine Wp (po_faddr rfl (by exact fc_field_81_2_4)) ?_
    refine Wp (po_load rfl (by exact fc_flat_79) (by rfl)) ?_
    refine rp 1 rfl ?_
    refine Wp (po_iaddr rfl rfl (by exact fc_slice_79_2_1) (by first | omega | (simp <;> omega)) (by first | omega | (simp <;> omega))) ?_
    refine Wp (po_load_sl rfl (List.getElem?_eq_getElem (by first | omega | (simp <;> omega))) (by exact fc_flat_2) (by rfl)) ?_
    refine rp 1 rfl ?_
    refine Sn (Aw (Rt ?_))
    refine at_ret1 rfl (rv_tmp rfl) ⟨_, ⟨by rw [if_pos (by omega), cAt_get (by omega)], rfl⟩, ?_⟩
    try dsimp only [ca, na, GridS.l, GridS.p]
    exact ent
end Hd
end
section
namespace Hd
set_option maxRecDepth 100000
open Go

/-- a grid as the program keeps it -/
structure GridOk (s : GridS) : Prop where
  may : May s.w s.h
  len : (s.c.length : Int) = s.w * s.h
  bt : ∀ x ∈ s.c, 1 ≤ x ∧ x ≤ 255
  vlen : (s.vs.length : Int) = acrN s.w * acrN s.h
  ep0 : 0 ≤ s.ep
  ep1 : s.ep ≤ 4611686018427387904 + 4611686018427387904 - 1
theorem GridOk.bytes {s : GridS} (h : GridOk s) : Bytes s.c := fun x hx => by have := h.bt x hx; omega
theorem GridOk.isc {s : GridS} (h : GridOk s) {c : Int} : IsC s.w s.h c ↔ 0 ≤ c ∧ c < s.c.length := by rw [h.len]; exact ⟨fun k => k.2, fun k => ⟨h.may, k⟩⟩

/-- an edit that may be -/
abbrev GridS.edit (s : GridS) (i cost : Int) : GridS := { s with c := s.c.set i.toNat cost, ep := s.ep + 1, vs := s.vs.set (sectorN s.w s.h i).toNat (s.ep + 1) }
theorem grid_Edit (s : GridS) (i cost : Int) (ok : GridOk s) (hi : 0 ≤ i ∧ i < s.c.length) (hc : 1 ≤ cost ∧ cost ≤ 255) (he : s.ep ≤ 4611686018427387904) :
    Spec PP 23 #[s.p, .int .i64 i, .int .i64 cost] s.l (fun v M => v = .int .i64 0 ∧ M = (s.edit i cost).l) := by
  have hs := sector_lt (ok.isc.2 hi)
  have hv := ok.vlen
  have h0 := ok.ep0
  have hs2 := hs.1.2
  refine spec_of (Go.Proofs.Tryz.func23) rfl rfl rfl (by exact fc_enters_23) ?_
  intro g F
  try dsimp only [ca, na, GridS.l, GridS.p]
  refine Sq (Rg ?_)
  refine rp 1 rfl ?_
  refine Sn (Aw (Sq (Bk (Sq (Rg ?_)))))
  refine rp 1 rfl ?_
  refine Wp (po_peq rfl rfl (by exact fc_ptr_27)) ?_
  refine rp 1 rfl ?_
  refine Sn (Aw ?_)
  refine r_cond_f rfl (rfl) ?_
  refine Sq (Rg ?_)
  refine rp 1 rfl ?_
  refine Wp (po_lt rfl rfl) ?_
  refine Wp (po_bf (po_move rfl) (decide_eq_false (by omega))) ?_
  refine rp 3 rfl ?_
  refine Wp (po_faddr rfl (by exact fc_field_81_0_0)) ?_
  refine Wp (po_faddr rfl (by exact fc_field_24_2_2)) ?_
  refine Wp (po_load rfl (by exact fc_flat_22) (by rfl)) ?_
  refine Wp (po_len rfl (by exact fc_slice_22_5_1)) ?_
  refine Wp (po_ge rfl rfl) ?_
  refine rp 2 rfl ?_
  refine Sn (Aw ?_)
  first | refine r_dec_f rfl (by omega) ?_ | refine r_nd_f rfl (by omega) ?_ | refine r_cond_f rfl (by omega) ?_
  refine Sq (Rg ?_)
  refine rp 1 rfl ?_
  refine Wp (po_lt rfl rfl) ?_
  refine Wp (po_bf (po_move rfl) (decide_eq_false (by omega))) ?_
  refine rp 1 rfl ?_
  refine Wp (po_gt rfl rfl) ?_
  refine rp 2 rfl ?_
  refine Sn (Aw ?_)
  first | refine r_dec_f rfl (by omega) ?_ | refine r_nd_f rfl (by omega) ?_ | refine r_cond_f rfl (by omega) ?_
  refine Sk (Bn (Aw (Sq (Rg ?_))))
  refine rp 2 rfl ?_
  refine Wp (po_faddr rfl (by exact fc_field_81_0_0)) ?_
  refine Wp (po_faddr rfl (by exact fc_field_24_2_2)) ?_
  refine Wp (po_load rfl (by exact fc_flat_22) (by rfl)) ?_
  refine rp 2 rfl ?_
  refine Wp (po_conv_w rfl (by exact fc_int_3_i64) (by exact fc_int_5_u8) (wrap_u8 _ (by omega) (by omega))) ?_
  refine Wp (po_iaddr rfl rfl (by exact fc_slice_22_5_1) (by first | omega | (simp <;> omega)) (by first | omega | (simp <;> omega))) ?_
  refine Ws (so_store_sl rfl rfl (List.getElem?_eq_getElem (by first | omega | (simp <;> omega))) (by exact fc_flat_5) (by decide) (by rfl) (by rfl)) ?_
  refine Sn (Aw (Sq (Rg ?_)))
  refine rp 2 rfl ?_
  refine Wp (po_faddr rfl (by exact fc_field_81_1_3)) ?_
  refine Wp (po_load rfl (by exact fc_flat_2) (by rfl)) ?_
  refine Wp (po_add' rfl rfl (by omega) (by omega)) ?_
  refine rp 1 rfl ?_
  refine Wp (po_faddr rfl (by exact fc_field_81_1_3)) ?_
  refine Ws (so_store1 rfl rfl (by exact fc_flat_2) rfl) ?_
  refine Sn (Aw (Sq ?_))
  refine r_ord [21] _ [(0, 1), (1, 1), (2, 1), (3, 0), (4, 1), (5, 1), (6, 1), (7, 1), (8, 0), (9, 1), (10, 1), (11, 1), (12, 1), (13, 0), (14, 1), (16, 1), (17, 1), (18, 1), (19, 0), (15, 2), (20, 0), (21, 2)] fc_mixed (by kernel_rfl) (fun _ h => h) ?_
  refine Of rfl (po_move rfl) ?_
  refine Of rfl (po_nil rfl) ?_
  refine Of rfl (po_faddr rfl (by exact fc_field_81_2_4)) ?_
  refine Or rfl (po_load rfl (by exact fc_flat_79) (by rfl)) ?_
  refine Of rfl (po_move rfl) ?_
  refine Of rfl (po_nil rfl) ?_
  refine Of rfl (po_faddr rfl (by exact fc_field_81_0_0)) ?_
  refine Of rfl (po_faddr rfl (by exact fc_field_24_0_0)) ?_
  refine Or rfl (po_load rfl (by exact fc_flat_3) (by rfl)) ?_
  refine Of rfl (po_move rfl) ?_
  refine Of rfl (po_nil rfl) ?_
  refine Of rfl (po_faddr rfl (by exact fc_field_81_0_0)) ?_
  refine Of rfl (po_faddr rfl (by exact fc_field_24_1_1)) ?_
  refine Or rfl (po_load rfl (by exact fc_flat_3) (by rfl)) ?_
  refine Of rfl (po_move rfl) ?_
  refine Of rfl (po_move rfl) ?_
  refine Of rfl (po_nil rfl) ?_
  refine Of rfl (po_faddr rfl (by exact fc_field_81_1_3)) ?_
  refine Or rfl (po_load rfl (by exact fc_flat_2) (by rfl)) ?_
  refine o_st rfl (st_call (co_fn rfl rfl) (where_Sector s.w s.h i) (by infer_instance) rfl rfl rfl ?_)
  rintro v61 _ ⟨rfl, rfl⟩
  try dsimp only [ca, na, GridS.l, GridS.p]
  refine ⟨fun _ => (by first | exact fun _ h => h | exact ent), ?_⟩
  refine Or rfl (po_iaddr rfl rfl (by exact fc_slice_79_2_1) (by first | omega | (simp <;> omega)) (by first | omega | (simp <;> omega))) ?_
  refine o_st rfl (st_so (so_store_sl rfl rfl (List.getElem?_eq_getElem (by first | omega | (simp <;> omega))) (by exact fc_flat_2) (by decide) (by rfl) (by rfl)) rfl rfl ?_)
  refine ⟨fun h => late_no h (by kernel_rfl), ?_⟩
  refine o_nil ?_
  refine Aw (Sq (Rg ?_))
  refine rp 1 rfl ?_
  refine Sn (Aw (Rt ?_))
  refine at_ret1 rfl (rv_tmp rfl) ⟨_, ⟨rfl, rfl⟩, ?_⟩
  try dsimp only [ca, na, GridS.l, GridS.p]
  exact ent
theorem grid_Edit1 (s : GridS) (i cost : Int) (hi : ¬ (0 ≤ i ∧ i < s.c.length)) :
    Spec PP 23 #[s.p, .int .i64 i, .int .i64 cost] s.l (fun v M => v = .int .i64 7 ∧ M = s.l) := by
  refine spec_of (Go.Proofs.Tryz.func23) rfl rfl rfl (by exact fc_enters_23) ?_
  intro g F
  try dsimp only [ca, na, GridS.l, GridS.p]
  refine Sq (Rg ?_)
  refine rp 1 rfl ?_
  refine Sn (Aw (Sq (Bk (Sq (Rg ?_)))))
  refine rp 1 rfl ?_
  refine Wp (po_peq rfl rfl (by exact fc_ptr_27)) ?_
  refine rp 1 rfl ?_
  refine Sn (Aw ?_)
  refine r_cond_f rfl (rfl) ?_
  refine Sq (Rg ?_)
  refine rp 1 rfl ?_
  refine Wp (po_lt rfl rfl) ?_
  by_cases h1 : i < 0
  ·skip
   refine ws (st_po (po_bt (po_move rfl) (decide_eq_true h1)) rfl rfl rfl ?_)
   refine rp 10 rfl ?_
   refine Sn (Aw ?_)
   refine r_cond_t rfl rfl ?_
   refine Sq (Rg ?_)
   refine rp 1 rfl ?_
   refine Sn (Aw (Rt (Br (Ar ?_))))
   refine at_ret1 rfl (rv_tmp rfl) ⟨_, ⟨rfl, rfl⟩, ?_⟩
   try dsimp only [ca, na, GridS.l, GridS.p]
   exact ent
  ·skip
   refine ws (st_po (po_bf (po_move rfl) (decide_eq_false h1)) rfl rfl rfl ?_)
   refine rp 3 rfl ?_
   refine Wp (po_faddr rfl (by exact fc_field_81_0_0)) ?_
   refine Wp (po_faddr rfl (by exact fc_field_24_2_2)) ?_
   refine Wp (po_load rfl (by exact fc_flat_22) (by rfl)) ?_
   refine Wp (po_len rfl (by exact fc_slice_22_5_1)) ?_
   refine Wp (po_ge rfl rfl) ?_
   refine rp 2 rfl ?_
   refine Sn (Aw ?_)
   first | refine r_dec_t rfl (by omega) ?_ | refine r_nd_t rfl (by omega) ?_ | refine r_cond_t rfl (by omega) ?_
   refine Sq (Rg ?_)
   refine rp 1 rfl ?_
   refine Sn (Aw (Rt (Br (Ar ?_))))
   refine at_ret1 rfl (rv_tmp rfl) ⟨_, ⟨rfl, rfl⟩, ?_⟩
   try dsimp only [ca, na, GridS.l, GridS.p]
   exact ent

/-- the rows of a sector -/
def rowN (w h s : Int) (c : List Int) (y : Nat) : List Int := (c.take (globalN w h s (y * (sizeN w h s).1) + (sizeN w h s).1).toNat).drop (globalN w h s (y * (sizeN w h s).1)).toNat
def rowsN (w h s : Int) (c : List Int) (k : Nat) : List Int := (List.range k).flatMap (rowN w h s c)
theorem rowsN_succ (w h s : Int) (c : List Int) (k : Nat) : rowsN w h s c (k + 1) = rowsN w h s c k ++ rowN w h s c k := by simp [rowsN, List.range_succ]
theorem row_ok {s : GridS} (ok : GridOk s) {i : Int} (hi : IsS s.w s.h i) (k : Nat) (hk : (k : Int) < (sizeN s.w s.h i).2) :
    0 ≤ globalN s.w s.h i (k * (sizeN s.w s.h i).1) ∧ globalN s.w s.h i (k * (sizeN s.w s.h i).1) + (sizeN s.w s.h i).1 ≤ s.c.length := by
  have hp := size_pos hi
  have hl : 0 ≤ (k : Int) * (sizeN s.w s.h i).1 ∧ (k : Int) * (sizeN s.w s.h i).1 < (sizeN s.w s.h i).1 * (sizeN s.w s.h i).2 := by
    have := mul_lt (a := 0) (b := (k : Int)) (c := (sizeN s.w s.h i).1) (d := (sizeN s.w s.h i).2) (by omega) (by omega) (by omega) hk
    omega
  obtain ⟨hg, hx, hy⟩ := global_is hi hl.1 hl.2
  have hlen := ok.len
  have e := isc_xy hg
  have hd := xy_div (w := (sizeN s.w s.h i).1) (x := 0) (y := k) (by omega) (by omega)
  rw [Int.add_zero] at hd
  rw [hd.2] at hx
  rw [hd.1] at hy
  have hr := mul_lt (a := globalN s.w s.h i (k * (sizeN s.w s.h i).1) % s.w + (sizeN s.w s.h i).1 - 1) (b := globalN s.w s.h i (k * (sizeN s.w s.h i).1) / s.w) (c := s.w) (d := s.h) (by omega) (by omega) e.2.1.1 e.2.1.2
  omega
theorem rows_len {s : GridS} (ok : GridOk s) {i : Int} (hi : IsS s.w s.h i) : ∀ (k : Nat), (k : Int) ≤ (sizeN s.w s.h i).2 → ((rowsN s.w s.h i s.c k).length : Int) = k * (sizeN s.w s.h i).1
  | 0, _ => by simp [rowsN]
  | k + 1, hk => by
    have := row_ok ok hi k (by omega)
    have ih := rows_len ok hi k (by omega)
    have hz := size_le s.w s.h i
    rw [rowsN_succ, List.length_append, Int.natCast_add, ih, rowN, List.length_drop, List.length_take]
    have e : ((k + 1 : Nat) : Int) * (sizeN s.w s.h i).1 = k * (sizeN s.w s.h i).1 + (sizeN s.w s.h i).1 := by rw [Int.natCast_add, Int.add_mul]; simp
    omega

/-- a sector's costs -/
abbrev tileN (s : GridS) (i : Int) : Tile := ⟨(sizeN s.w s.h i).1, (sizeN s.w s.h i).2, rowsN s.w s.h i s.c (sizeN s.w s.h i).2.toNat⟩
theorem grid_Tile (s : GridS) (i : Int) (ok : GridOk s) (hi : IsS s.w s.h i) :
    Spec PP 17 #[s.p, .int .i64 i] s.l (fun v M => ∃ tc, v = .tuple #[tileV tc (tileN s i), .bool true] ∧ M = s.l ++ [Sl eB tc (tileN s i).c]) := by
  have hp := size_pos hi
  have hz := size_le s.w s.h i
  have hlen := ok.len
  have hb := may_mul ok.may
  refine spec_of (Go.Proofs.Tryz.func17) rfl rfl rfl (by exact fc_enters_17) ?_
  intro g F
  try dsimp only [ca, na, GridS.l, GridS.p]
  refine Sq (Rg ?_)
  refine Wx (xo_alloc (by exact fc_zero_41)) ?_
  rintro _ _ ⟨b4, rfl, rfl⟩
  refine rp 1 rfl ?_
  refine Sn (Aw (Sq (Rg ?_)))
  refine rp 1 rfl ?_
  refine Wc (co_fn rfl rfl) (grid_Size s) ?_
  rintro v15 _ ⟨rfl, rfl⟩
  try dsimp only [ca, na, GridS.l, GridS.p]
  refine rp 5 rfl ?_
  refine Sn (Aw (Sq (Rg ?_)))
  refine rp 3 rfl ?_
  refine Wc (co_fn rfl rfl) (where_Size s.w s.h i) ?_
  rintro v22 _ ⟨rfl, rfl⟩
  try dsimp only [ca, na, GridS.l, GridS.p]
  refine rp 5 rfl ?_
  refine Sn (Aw (Sq (Sq (Rg ?_))))
  refine rp 1 rfl ?_
  refine Wp (po_eq rfl rfl) ?_
  refine Sn (Aw ?_)
  first | refine r_dec_f rfl (by omega) ?_ | refine r_nd_f rfl (by omega) ?_ | refine r_cond_f rfl (by omega) ?_
  refine Sk (Aw (Sq (Rg ?_)))
  refine rp 2 rfl ?_
  refine Wp (po_build1 rfl (by exact fc_zero_41) (by exact fc_places_41_0_1) (by exact fc_info_41) rfl) ?_
  refine Wx (xo_alloc (by exact fc_zero_41)) ?_
  rintro _ _ ⟨b10, rfl, rfl⟩
  refine Ws (so_storea1 rfl rfl (by exact fc_agg_41_3) rfl rfl) ?_
  refine Sn (Aw (Sq (Sq (Rg ?_))))
  refine rp 2 rfl ?_
  refine Sn (Aw (Bk ?_))
  refine r_loop (S := Nat × Value × List Int) (fun ⟨k, cv, xs⟩ => [(32, .int .i64 k)]) [(0, _), (1, _), (4, _), (6, _), (7, _), (8, _), (10, _), (31, _)] (fun ⟨k, cv, xs⟩ => [Blk b10 41 [.int .i64 (sizeN s.w s.h i).1, .int .i64 (sizeN s.w s.h i).2, cv], Sl eB cv xs, Blk s.b 81 [.int .i64 s.w, .int .i64 s.h, s.cv, .int .i64 s.ep, s.vv], Sl eB s.cv s.c, Sl eL s.vv s.vs, Blk b4 41 [.int .i64 0, .int .i64 0, .slice none 0 0], F]) (fun ⟨k, cv, xs⟩ => (k : Int) ≤ (sizeN s.w s.h i).2 ∧ xs = rowsN s.w s.h i s.c k) (fun ⟨k, cv, xs⟩ => (sizeN s.w s.h i).2.toNat - k) ((0, .slice none 0 0, [])) (And.intro rfl (And.intro rfl (And.intro rfl (And.intro rfl (And.intro rfl (And.intro rfl (And.intro rfl (And.intro rfl (trivial))))))))) (And.intro rfl (trivial)) (⟨by omega, rfl⟩) ent ?_
  rintro ⟨k, cv, xs⟩ ⟨hk, hxs⟩
  try dsimp only [ca, na, GridS.l, GridS.p]
  have hmul := mul_1k (a := (k : Int)) (b := (sizeN s.w s.h i).1) (by omega) (by omega) (by omega) (by omega)
  refine Sq (Rg ?_)
  refine Wp (po_lt rfl rfl) ?_
  refine Sn (Aw (Sq ?_))
  refine Rc rfl ?_ ?_
  ·skip
   intro hlt
   have hro := row_ok ok hi k hlt
   have hrl := rows_len ok hi k hk
   rw [← hxs] at hrl
   refine Sk (Aw (Sq (Bk (Sq (Rg ?_)))))
   refine rp 2 rfl ?_
   refine Sn (Aw (Sq (Rg ?_)))
   refine rp 5 rfl ?_
   refine Wp (po_mul' rfl rfl (by omega) (by omega)) ?_
   refine Wc (co_fn rfl rfl) (where_Global s.w s.h i (k * (sizeN s.w s.h i).1)) ?_
   rintro v41 _ ⟨rfl, rfl⟩
   try dsimp only [ca, na, GridS.l, GridS.p]
   refine rp 1 rfl ?_
   refine Sn (Aw ?_)
   refine r_ord [12, 14] _ [(0, 1), (1, 0), (2, 1), (3, 1), (4, 1), (5, 1), (6, 0), (7, 1), (8, 1), (9, 1), (10, 1), (11, 0), (12, 2), (13, 1), (14, 2)] fc_mixed (by kernel_rfl) (fun _ h => h) ?_
   refine Of rfl (po_faddr rfl (by exact fc_field_41_2_2)) ?_
   refine Or rfl (po_load rfl (by exact fc_flat_22) (by rfl)) ?_
   refine Of rfl (po_move rfl) ?_
   refine Of rfl (po_nil rfl) ?_
   refine Of rfl (po_faddr rfl (by exact fc_field_81_0_0)) ?_
   refine Of rfl (po_faddr rfl (by exact fc_field_24_2_2)) ?_
   refine Or rfl (po_load rfl (by exact fc_flat_22) (by rfl)) ?_
   refine Of rfl (po_move rfl) ?_
   refine Of rfl (po_move rfl) ?_
   refine Of rfl (po_move rfl) ?_
   refine Of rfl (po_add' rfl rfl (by omega) (by omega)) ?_
   refine Or rfl (po_slice_lh rfl rfl rfl (by exact fc_slice_22_5_1) (by first | omega | (simp <;> omega)) (by first | omega | (simp <;> omega)) (by first | omega | (simp <;> omega))) ?_
   refine o_st rfl (st_xo (xo_append (m2 := rd_sub _ _ (by omega) (by omega)) rfl rfl (by exact fc_slice_22_5_1) (by exact fc_slice_22_5_1) (by exact fc_elem_5_1_1) (by simp only [List.length_drop, List.length_take]; omega) (by simp only [List.length_drop, List.length_take]; omega)) rfl rfl rfl ?_)
   rintro v54 _ rfl
   refine ⟨fun h => late_no h (by kernel_rfl), ?_⟩
   refine Of rfl (po_faddr rfl (by exact fc_field_41_2_2)) ?_
   refine o_st rfl (st_so (so_store1 rfl rfl (by exact fc_flat_22) rfl) rfl rfl ?_)
   refine ⟨fun h => late_no h (by kernel_rfl), ?_⟩
   refine o_nil ?_
   refine Bn (Aw (Rg ?_))
   refine Wp (po_add' rfl rfl (by omega) (by omega)) ?_
   refine rp 1 rfl ?_
   refine Sn ?_
   rw [← rowN]
   exact at_again ((k + 1, v54, xs ++ rowN s.w s.h i s.c k)) (And.intro rfl (trivial)) (And.intro rfl (And.intro rfl (And.intro rfl (And.intro rfl (And.intro rfl (And.intro rfl (And.intro rfl (And.intro rfl (trivial))))))))) (⟨by omega, by rw [hxs, rowsN_succ]⟩) (by omega) ent
  ·skip
   intro hlt
   have hke : k = (sizeN s.w s.h i).2.toNat := by omega
   subst hke hxs
   refine Ex' (Ax (Ax (Bh (Aw (Sq (Rg ?_))))))
   refine Wp (po_loada rfl (by exact fc_agg_41_3) (by rfl)) ?_
   refine Ws (so_storea1 rfl rfl (by exact fc_agg_41_3) rfl rfl) ?_
   refine rp 1 rfl ?_
   refine Sn (Aw (Rt ?_))
   refine at_ret2 rfl (rv_cella rfl (by exact fc_agg_41_3) (by rfl)) (rv_tmp rfl) ⟨_, ⟨cv, rfl, rfl⟩, ?_⟩
   try dsimp only [ca, na, GridS.l, GridS.p]
   exact ent
theorem grid_Tile0 (s : GridS) (i : Int) (hi : ¬ IsS s.w s.h i) :
    Spec PP 17 #[s.p, .int .i64 i] s.l (fun v M => v = .tuple #[tileV (.slice none 0 0) ⟨0, 0, []⟩, .bool false] ∧ M = s.l) := by
  refine spec_of (Go.Proofs.Tryz.func17) rfl rfl rfl (by exact fc_enters_17) ?_
  intro g F
  try dsimp only [ca, na, GridS.l, GridS.p]
  refine Sq (Rg ?_)
  refine Wx (xo_alloc (by exact fc_zero_41)) ?_
  rintro _ _ ⟨b4, rfl, rfl⟩
  refine rp 1 rfl ?_
  refine Sn (Aw (Sq (Rg ?_)))
  refine rp 1 rfl ?_
  refine Wc (co_fn rfl rfl) (grid_Size s) ?_
  rintro v15 _ ⟨rfl, rfl⟩
  try dsimp only [ca, na, GridS.l, GridS.p]
  refine rp 5 rfl ?_
  refine Sn (Aw (Sq (Rg ?_)))
  refine rp 3 rfl ?_
  refine Wc (co_fn rfl rfl) (where_Size s.w s.h i) ?_
  rintro v22 _ ⟨rfl, rfl⟩
  try dsimp only [ca, na, GridS.l, GridS.p]
  rw [sizeN, if_neg hi]
  refine rp 5 rfl ?_
  refine Sn (Aw (Sq (Sq (Rg ?_))))
  refine rp 1 rfl ?_
  refine Wp (po_eq rfl rfl) ?_
  refine Sn (Aw ?_)
  first | refine r_dec_t rfl (rfl) ?_ | refine r_nd_t rfl (rfl) ?_ | refine r_cond_t rfl (rfl) ?_
  refine Sq (Rg ?_)
  refine Wp (po_build1 rfl (by exact fc_zero_41) (by exact fc_places_41) (by exact fc_info_41) rfl) ?_
  refine Ws (so_storea1 rfl rfl (by exact fc_agg_41_3) rfl rfl) ?_
  refine rp 1 rfl ?_
  refine Sn (Aw (Rt (Ar ?_)))
  refine at_ret2 rfl (rv_cella rfl (by exact fc_agg_41_3) (by rfl)) (rv_tmp rfl) ⟨_, ⟨rfl, rfl⟩, ?_⟩
  try dsimp only [ca, na, GridS.l, GridS.p]
  exact ent
end Hd
end
section
namespace Hd
set_option maxRecDepth 100000
open Go

theorem rng_succ {α : Type} (f : Nat → α) (k : Nat) : (List.range (k + 1)).map f = (List.range k).map f ++ [f k] := by simp [List.range_succ]

theorem border_sides : Spec PP 70 #[] [] (fun v M => v = .agg [.int .i64 0, .int .i64 1, .int .i64 2, .int .i64 3].toArray ∧ M = []) := by
  refine spec_of (Go.Proofs.Tryz.func70) rfl rfl rfl (by exact fc_enters_70) ?_
  intro g F
  try dsimp only [ca, na, GridS.l, GridS.p]
  refine Sq (Rg ?_)
  refine Wx (xo_alloc (by exact fc_zero_107)) ?_
  rintro _ _ ⟨b0, rfl, rfl⟩
  refine Sn (Aw (Sq (Rg ?_)))
  refine Wp (po_build_arr eI [0, 1, 2, 3] (cs := [.int .i64 0, .int .i64 1, .int .i64 2, .int .i64 3]) rfl (by exact fc_arr_107_4_3_1) (by exact fc_zero_107) ⟨rfl, rfl, rfl, rfl, rfl, rfl, rfl, rfl, trivial⟩ rfl rfl) ?_
  refine Ws (so_storea1 rfl rfl (by exact fc_agg_107_4) rfl rfl) ?_
  refine Sn (Aw (Rt ?_))
  refine at_ret1 rfl (rv_cella rfl (by exact fc_agg_107_4) (by rfl)) ⟨_, ⟨rfl, rfl⟩, ?_⟩
  try dsimp only [ca, na, GridS.l, GridS.p]
  exact ent
theorem nth_sides {k : Nat} (h : k < 4) : nth [Value.int .i64 0, .int .i64 1, .int .i64 2, .int .i64 3] ((k : Int).toNat * 1) = some (.int .i64 k) := by
  have : k = 0 ∨ k = 1 ∨ k = 2 ∨ k = 3 := by omega
  rcases this with e | e | e | e <;> subst e <;> rfl

/-- a side's locals -/
def alongN (tw th s : Int) : List Int :=
  if s = 2 then (List.range tw.toNat).map fun (x : Nat) => (th - 1) * tw + (x : Int)
  else if s = 0 then (List.range tw.toNat).map fun (x : Nat) => 0 + (x : Int)
  else if s = 1 then (List.range th.toNat).map fun (y : Nat) => tw - 1 + (y : Int) * tw
  else if s = 3 then (List.range th.toNat).map fun (y : Nat) => 0 + (y : Int) * tw
  else []
theorem border_along (tw th s : Int) (h0 : 0 ≤ tw ∧ tw ≤ 16) (h1 : 0 ≤ th ∧ th ≤ 16) : Spec PP 100 #[.int .i64 tw, .int .i64 th, .int .i64 s] [] (fun v M => M = [Sl eI v (alongN tw th s)]) := by
  refine spec_of (Go.Proofs.Tryz.func100) rfl rfl rfl (by exact fc_enters_100) ?_
  intro g F
  try dsimp only [ca, na, GridS.l, GridS.p]
  refine Sq (Rg ?_)
  refine rp 1 rfl ?_
  refine Sn (Aw (Sq (Rg ?_)))
  refine rp 1 rfl ?_
  refine Sn (Aw (Sq (Rg ?_)))
  refine rp 1 rfl ?_
  refine Sn (Aw (Sq (Sq (Rg ?_))))
  refine rp 1 rfl ?_
  refine Sn (Aw (Bk (Sq (Bk (Sq (Bk (Sq (Bk (Sq (Bk (Sq (Sq (Sq (Rg ?_))))))))))))))
  refine Wp (po_eq rfl rfl) ?_
  refine rp 1 rfl ?_
  refine Sn (Aw ?_)
  refine Rc rfl ?_ ?_
  ·skip
   intro h2
   refine Ex' (Ax (Ax (Bh (Aw ?_))))
   have hmul : -1 ≤ th - 1 ∧ th - 1 ≤ 15 ∧ -16 ≤ (th - 1) * tw ∧ (th - 1) * tw ≤ 256 := by have := mul_1k (a := th) (b := tw) (by omega) (by omega) (by omega) (by omega); rw [Int.sub_mul, Int.one_mul]; have : th * tw ≤ 16 * 16 := Int.mul_le_mul (by omega) (by omega) (by omega) (by omega); omega
   refine Rg ?_
   refine rp 1 rfl ?_
   refine Wp (po_sub' rfl rfl (by omega) (by omega)) ?_
   refine rp 1 rfl ?_
   refine Wp (po_mul' rfl rfl (by omega) (by omega)) ?_
   refine rp 1 rfl ?_
   refine Sn (Bn (Aw (Sq (Sq (Rg ?_)))))
   refine rp 2 rfl ?_
   refine Sn (Aw (Bk ?_))
   refine r_loop (S := Nat × Value × List Int) (fun ⟨k, cv, xs⟩ => [(7, cv), (25, .int .i64 k)]) [(8, _), (24, _)] (fun ⟨k, cv, xs⟩ => [Sl eI cv xs, F]) (fun ⟨k, cv, xs⟩ => (k : Int) ≤ tw ∧ xs = (List.range k).map fun (x : Nat) => (th - 1) * tw + (x : Int)) (fun ⟨k, cv, xs⟩ => tw.toNat - k) ((0, .slice none 0 0, [])) (And.intro rfl (And.intro rfl (trivial))) (And.intro rfl (And.intro rfl (trivial))) (⟨by omega, rfl⟩) ent ?_
   rintro ⟨k, cv, xs⟩ ⟨hk, hxs⟩
   try dsimp only [ca, na, GridS.l, GridS.p]
   have hxl : xs.length = k := by rw [hxs]; simp
   refine Sq (Rg ?_)
   refine Wp (po_lt rfl rfl) ?_
   refine Sn (Aw (Sq ?_))
   refine Rc rfl ?_ ?_
   ·skip
    intro hlt
    refine Sk (Aw (Sq (Bk (Sq (Rg ?_)))))
    refine rp 2 rfl ?_
    refine Sn (Aw (Rg ?_))
    refine rp 3 rfl ?_
    refine Wp (po_add' rfl rfl (by omega) (by omega)) ?_
    refine Wx (xo_bslice eI [_] rfl (by exact fc_slice_35_3_1) (by exact fc_elem_3_1_8) ⟨rfl, rfl, trivial⟩ rfl (by decide)) ?_
    rintro v32 _ rfl
    refine Wx (xo_append rfl rfl (by exact fc_slice_35_3_1) (by exact fc_slice_35_3_1) (by exact fc_elem_3_1_8) (by first | omega | (simp <;> omega)) (by first | omega | (simp <;> omega))) ?_
    rintro v33 _ rfl
    refine rp 1 rfl ?_
    refine Sn (Bn (Aw (Rg ?_)))
    refine Wp (po_add' rfl rfl (by omega) (by omega)) ?_
    refine rp 1 rfl ?_
    refine Sn ?_
    exact at_again ((k + 1, v33, xs ++ [(th - 1) * tw + (k : Int)])) (And.intro rfl (And.intro rfl (trivial))) (And.intro rfl (And.intro rfl (trivial))) (⟨by omega, by rw [rng_succ, hxs]⟩) (by omega) ent
   ·skip
    intro hlt
    refine Ex' (Ax (Ax (Bh (Aw (Ex' ?_)))))
    refine at_block_there rfl ?_
    refine Ax ?_
    refine at_block_there rfl ?_
    refine Ax (Bh (Aw (Sq (Rg ?_))))
    refine rp 2 rfl ?_
    refine Sn (Aw (Rt ?_))
    have hke : k = tw.toNat := by omega
    subst hke
    have e : xs = alongN tw th s := by rw [alongN, if_pos h2, hxs]
    subst e
    refine at_ret1 rfl (rv_tmp rfl) ⟨_, rfl, ?_⟩
    try dsimp only [ca, na, GridS.l, GridS.p]
    exact ent
  ·skip
   intro h2
   refine Sk (Aw (Sq (Sq (Rg ?_))))
   refine Wp (po_eq rfl rfl) ?_
   refine rp 1 rfl ?_
   refine Sn (Aw ?_)
   refine Rc rfl ?_ ?_
   ·skip
    intro h3
    refine Ex' (Ax (Ax ?_))
    refine at_block_there rfl ?_
    refine Ax (Bh (Aw (Sq (Sq (Rg ?_)))))
    refine rp 2 rfl ?_
    refine Sn (Aw (Bk ?_))
    refine r_loop (S := Nat × Value × List Int) (fun ⟨k, cv, xs⟩ => [(7, cv), (25, .int .i64 k)]) [(8, _), (24, _)] (fun ⟨k, cv, xs⟩ => [Sl eI cv xs, F]) (fun ⟨k, cv, xs⟩ => (k : Int) ≤ tw ∧ xs = (List.range k).map fun (x : Nat) => 0 + (x : Int)) (fun ⟨k, cv, xs⟩ => tw.toNat - k) ((0, .slice none 0 0, [])) (And.intro rfl (And.intro rfl (trivial))) (And.intro rfl (And.intro rfl (trivial))) (⟨by omega, rfl⟩) ent ?_
    rintro ⟨k, cv, xs⟩ ⟨hk, hxs⟩
    try dsimp only [ca, na, GridS.l, GridS.p]
    have hxl : xs.length = k := by rw [hxs]; simp
    refine Sq (Rg ?_)
    refine Wp (po_lt rfl rfl) ?_
    refine Sn (Aw (Sq ?_))
    refine Rc rfl ?_ ?_
    ·skip
     intro hlt
     refine Sk (Aw (Sq (Bk (Sq (Rg ?_)))))
     refine rp 2 rfl ?_
     refine Sn (Aw (Rg ?_))
     refine rp 3 rfl ?_
     refine Wp (po_add' rfl rfl (by omega) (by omega)) ?_
     refine Wx (xo_bslice eI [_] rfl (by exact fc_slice_35_3_1) (by exact fc_elem_3_1_8) ⟨rfl, rfl, trivial⟩ rfl (by decide)) ?_
     rintro v32 _ rfl
     refine Wx (xo_append rfl rfl (by exact fc_slice_35_3_1) (by exact fc_slice_35_3_1) (by exact fc_elem_3_1_8) (by first | omega | (simp <;> omega)) (by first | omega | (simp <;> omega))) ?_
     rintro v33 _ rfl
     refine rp 1 rfl ?_
     refine Sn (Bn (Aw (Rg ?_)))
     refine Wp (po_add' rfl rfl (by omega) (by omega)) ?_
     refine rp 1 rfl ?_
     refine Sn ?_
     exact at_again ((k + 1, v33, xs ++ [0 + (k : Int)])) (And.intro rfl (And.intro rfl (trivial))) (And.intro rfl (And.intro rfl (trivial))) (⟨by omega, by rw [rng_succ, hxs]⟩) (by omega) ent
    ·skip
     intro hlt
     refine Ex' (Ax (Ax (Bh (Aw (Ex' ?_)))))
     refine at_block_there rfl ?_
     refine Ax ?_
     refine at_block_there rfl ?_
     refine Ax (Bh (Aw (Sq (Rg ?_))))
     refine rp 2 rfl ?_
     refine Sn (Aw (Rt ?_))
     have hke : k = tw.toNat := by omega
     subst hke
     have e : xs = alongN tw th s := by rw [alongN, if_neg h2, if_pos h3, hxs]
     subst e
     refine at_ret1 rfl (rv_tmp rfl) ⟨_, rfl, ?_⟩
     try dsimp only [ca, na, GridS.l, GridS.p]
     exact ent
   ·skip
    intro h3
    refine Sk (Aw (Sq (Sq (Rg ?_))))
    refine Wp (po_eq rfl rfl) ?_
    refine rp 1 rfl ?_
    refine Sn (Aw ?_)
    refine Rc rfl ?_ ?_
    ·skip
     intro h4
     refine Ex' (Ax (Ax ?_))
     refine at_block_there rfl ?_
     refine Ax ?_
     refine at_block_there rfl ?_
     refine Ax (Bh (Aw (Rg ?_)))
     refine rp 1 rfl ?_
     refine Wp (po_sub' rfl rfl (by omega) (by omega)) ?_
     refine rp 1 rfl ?_
     refine Sn (Bn (Aw (Sq (Sq (Rg ?_)))))
     refine rp 2 rfl ?_
     refine Sn (Aw (Bk ?_))
     refine r_loop (S := Nat × Value × List Int) (fun ⟨k, cv, xs⟩ => [(7, cv), (38, .int .i64 k)]) [(0, _), (8, _), (37, _)] (fun ⟨k, cv, xs⟩ => [Sl eI cv xs, F]) (fun ⟨k, cv, xs⟩ => (k : Int) ≤ th ∧ xs = (List.range k).map fun (y : Nat) => tw - 1 + (y : Int) * tw) (fun ⟨k, cv, xs⟩ => th.toNat - k) ((0, .slice none 0 0, [])) (And.intro rfl (And.intro rfl (And.intro rfl (trivial)))) (And.intro rfl (And.intro rfl (trivial))) (⟨by omega, rfl⟩) ent ?_
     rintro ⟨k, cv, xs⟩ ⟨hk, hxs⟩
     try dsimp only [ca, na, GridS.l, GridS.p]
     have hxl : xs.length = k := by rw [hxs]; simp
     have hmul := mul_1k (a := (k : Int)) (b := tw) (by omega) (by omega) (by omega) (by omega)
     refine Sq (Rg ?_)
     refine Wp (po_lt rfl rfl) ?_
     refine Sn (Aw (Sq ?_))
     refine Rc rfl ?_ ?_
     ·skip
      intro hlt
      refine Sk (Aw (Sq (Bk (Sq (Rg ?_)))))
      refine rp 2 rfl ?_
      refine Sn (Aw (Rg ?_))
      refine rp 4 rfl ?_
      refine Wp (po_mul' rfl rfl (by omega) (by omega)) ?_
      refine Wp (po_add' rfl rfl (by omega) (by omega)) ?_
      refine Wx (xo_bslice eI [_] rfl (by exact fc_slice_35_3_1) (by exact fc_elem_3_1_8) ⟨rfl, rfl, trivial⟩ rfl (by decide)) ?_
      rintro v47 _ rfl
      refine Wx (xo_append rfl rfl (by exact fc_slice_35_3_1) (by exact fc_slice_35_3_1) (by exact fc_elem_3_1_8) (by first | omega | (simp <;> omega)) (by first | omega | (simp <;> omega))) ?_
      rintro v48 _ rfl
      refine rp 1 rfl ?_
      refine Sn (Bn (Aw (Rg ?_)))
      refine Wp (po_add' rfl rfl (by omega) (by omega)) ?_
      refine rp 1 rfl ?_
      refine Sn ?_
      exact at_again ((k + 1, v48, xs ++ [tw - 1 + (k : Int) * tw])) (And.intro rfl (And.intro rfl (trivial))) (And.intro rfl (And.intro rfl (And.intro rfl (trivial)))) (⟨by omega, by rw [rng_succ, hxs]⟩) (by omega) ent
     ·skip
      intro hlt
      refine Ex' (Ax (Ax (Bh (Aw (Ex' (Bh (Aw (Sq (Rg ?_)))))))))
      refine rp 2 rfl ?_
      refine Sn (Aw (Rt ?_))
      have hke : k = th.toNat := by omega
      subst hke
      have e : xs = alongN tw th s := by rw [alongN, if_neg h2, if_neg h3, if_pos h4, hxs]
      subst e
      refine at_ret1 rfl (rv_tmp rfl) ⟨_, rfl, ?_⟩
      try dsimp only [ca, na, GridS.l, GridS.p]
      exact ent
    ·skip
     intro h4
     refine Sk (Aw (Sq (Rg ?_)))
     refine Wp (po_eq rfl rfl) ?_
     refine rp 1 rfl ?_
     refine Sn (Aw ?_)
     refine Rc rfl ?_ ?_
     ·skip
      intro h5
      refine Ex' (Ax ?_)
      refine at_block_there rfl ?_
      refine Ax ?_
      refine at_block_there rfl ?_
      refine Ax ?_
      refine at_block_there rfl ?_
      refine Ax (Bh (Aw (Sq (Sq (Rg ?_)))))
      refine rp 2 rfl ?_
      refine Sn (Aw (Bk ?_))
      refine r_loop (S := Nat × Value × List Int) (fun ⟨k, cv, xs⟩ => [(7, cv), (38, .int .i64 k)]) [(0, _), (8, _), (37, _)] (fun ⟨k, cv, xs⟩ => [Sl eI cv xs, F]) (fun ⟨k, cv, xs⟩ => (k : Int) ≤ th ∧ xs = (List.range k).map fun (y : Nat) => 0 + (y : Int) * tw) (fun ⟨k, cv, xs⟩ => th.toNat - k) ((0, .slice none 0 0, [])) (And.intro rfl (And.intro rfl (And.intro rfl (trivial)))) (And.intro rfl (And.intro rfl (trivial))) (⟨by omega, rfl⟩) ent ?_
      rintro ⟨k, cv, xs⟩ ⟨hk, hxs⟩
      try dsimp only [ca, na, GridS.l, GridS.p]
      have hxl : xs.length = k := by rw [hxs]; simp
      have hmul := mul_1k (a := (k : Int)) (b := tw) (by omega) (by omega) (by omega) (by omega)
      refine Sq (Rg ?_)
      refine Wp (po_lt rfl rfl) ?_
      refine Sn (Aw (Sq ?_))
      refine Rc rfl ?_ ?_
      ·skip
       intro hlt
       refine Sk (Aw (Sq (Bk (Sq (Rg ?_)))))
       refine rp 2 rfl ?_
       refine Sn (Aw (Rg ?_))
       refine rp 4 rfl ?_
       refine Wp (po_mul' rfl rfl (by omega) (by omega)) ?_
       refine Wp (po_add' rfl rfl (by omega) (by omega)) ?_
       refine Wx (xo_bslice eI [_] rfl (by exact fc_slice_35_3_1) (by exact fc_elem_3_1_8) ⟨rfl, rfl, trivial⟩ rfl (by decide)) ?_
       rintro v47 _ rfl
       refine Wx (xo_append rfl rfl (by exact fc_slice_35_3_1) (by exact fc_slice_35_3_1) (by exact fc_elem_3_1_8) (by first | omega | (simp <;> omega)) (by first | omega | (simp <;> omega))) ?_
       rintro v48 _ rfl
       refine rp 1 rfl ?_
       refine Sn (Bn (Aw (Rg ?_)))
       refine Wp (po_add' rfl rfl (by omega) (by omega)) ?_
       refine rp 1 rfl ?_
       refine Sn ?_
       exact at_again ((k + 1, v48, xs ++ [0 + (k : Int) * tw])) (And.intro rfl (And.intro rfl (trivial))) (And.intro rfl (And.intro rfl (And.intro rfl (trivial)))) (⟨by omega, by rw [rng_succ, hxs]⟩) (by omega) ent
      ·skip
       intro hlt
       refine Ex' (Ax (Ax (Bh (Aw (Ex' (Bh (Aw (Sq (Rg ?_)))))))))
       refine rp 2 rfl ?_
       refine Sn (Aw (Rt ?_))
       have hke : k = th.toNat := by omega
       subst hke
       have e : xs = alongN tw th s := by rw [alongN, if_neg h2, if_neg h3, if_neg h4, if_pos h5, hxs]
       subst e
       refine at_ret1 rfl (rv_tmp rfl) ⟨_, rfl, ?_⟩
       try dsimp only [ca, na, GridS.l, GridS.p]
       exact ent
     ·skip
      intro h5
      refine Sk (Aw (Ex' ?_))
      refine at_block_there rfl ?_
      refine Ax ?_
      refine at_block_there rfl ?_
      refine Ax ?_
      refine at_block_there rfl ?_
      refine Ax ?_
      refine at_block_there rfl ?_
      refine Ax (Bh (Aw (Sq (Rg ?_))))
      refine rp 2 rfl ?_
      refine Sn (Aw (Rt ?_))
      have e : [] = alongN tw th s := by rw [alongN, if_neg h2, if_neg h3, if_neg h4, if_neg h5]
      refine at_ret1 rfl (rv_tmp rfl) ⟨_, (by rw [← e]), ?_⟩
      try dsimp only [ca, na, GridS.l, GridS.p]
      exact ent

/-- 11.1: the cell of another sector over a side -/
def overN (w h c s : Int) : Int := if stepN w h c s < 0 ∨ sectorN w h (stepN w h c s) = sectorN w h c then -1 else stepN w h c s
theorem border_over (w h c s : Int) : Spec PP 71 #[.int .i64 w, .int .i64 h, .int .i64 c, .int .i64 s] [] (fun v M => v = .int .i64 (overN w h c s) ∧ M = []) := by
  refine spec_of (Go.Proofs.Tryz.func71) rfl rfl rfl (by exact fc_enters_71) ?_
  intro g F
  try dsimp only [ca, na, GridS.l, GridS.p]
  refine Sq (Rg ?_)
  refine rp 1 rfl ?_
  refine Sn (Aw (Sq (Rg ?_)))
  refine rp 4 rfl ?_
  refine Wc (co_fn rfl rfl) (where_Step w h c s) ?_
  rintro v14 _ ⟨rfl, rfl⟩
  try dsimp only [ca, na, GridS.l, GridS.p]
  refine rp 1 rfl ?_
  refine Sn (Aw (Sq (Sq (Rg ?_))))
  refine rp 1 rfl ?_
  refine Wp (po_lt rfl rfl) ?_
  by_cases h1 : stepN w h c s < 0
  ·skip
   refine ws (st_po (po_bt (po_move rfl) (decide_eq_true h1)) rfl rfl rfl ?_)
   refine rp 10 rfl ?_
   refine Sn (Aw ?_)
   refine r_cond_t rfl rfl ?_
   refine Sq (Rg ?_)
   refine rp 1 rfl ?_
   refine Sn (Aw (Rt (Ar ?_)))
   refine at_ret1 rfl (rv_tmp rfl) ⟨_, ⟨by rw [overN, if_pos (.inl h1)], rfl⟩, ?_⟩
   try dsimp only [ca, na, GridS.l, GridS.p]
   exact ent
  ·skip
   refine ws (st_po (po_bf (po_move rfl) (decide_eq_false h1)) rfl rfl rfl ?_)
   refine rp 3 rfl ?_
   refine Wc (co_fn rfl rfl) (where_Sector w h (stepN w h c s)) ?_
   rintro v21 _ ⟨rfl, rfl⟩
   try dsimp only [ca, na, GridS.l, GridS.p]
   refine rp 3 rfl ?_
   refine Wc (co_fn rfl rfl) (where_Sector w h c) ?_
   rintro v25 _ ⟨rfl, rfl⟩
   try dsimp only [ca, na, GridS.l, GridS.p]
   refine Wp (po_eq rfl rfl) ?_
   refine rp 1 rfl ?_
   refine Sn (Aw ?_)
   refine Rc rfl ?_ ?_
   ·skip
    intro h2
    refine Sq (Rg ?_)
    refine rp 1 rfl ?_
    refine Sn (Aw (Rt (Ar ?_)))
    refine at_ret1 rfl (rv_tmp rfl) ⟨_, ⟨by rw [overN, if_pos (.inr h2)], rfl⟩, ?_⟩
    try dsimp only [ca, na, GridS.l, GridS.p]
    exact ent
   ·skip
    intro h2
    refine Sk (Aw (Sq (Rg ?_)))
    refine rp 2 rfl ?_
    refine Sn (Aw (Rt ?_))
    refine at_ret1 rfl (rv_tmp rfl) ⟨_, ⟨by rw [overN, if_neg (by rintro (h | h); exact h1 h; exact h2 h)], rfl⟩, ?_⟩
    try dsimp only [ca, na, GridS.l, GridS.p]
    exact ent

/-- is it an open cell? -/
def openN (c : List Int) (i : Int) : Prop := 0 < costN c i ∧ costN c i < 255
instance (c : List Int) (i : Int) : Decidable (openN c i) := by unfold openN; infer_instance
theorem border_open (s : GridS) (i : Int) (hc : Bytes s.c) : Spec PP 69 #[s.p, .int .i64 i] s.l (fun v M => v = .bool (decide (openN s.c i)) ∧ M = s.l) := by
  refine spec_of (Go.Proofs.Tryz.func69) rfl rfl rfl (by exact fc_enters_69) ?_
  intro g F
  try dsimp only [ca, na, GridS.l, GridS.p]
  refine Sq (Rg ?_)
  refine rp 1 rfl ?_
  refine Sn (Aw (Sq (Rg ?_)))
  refine rp 2 rfl ?_
  refine Wc (co_fn rfl rfl) (grid_Cost s i hc) ?_
  rintro v8 _ ⟨rfl, rfl⟩
  try dsimp only [ca, na, GridS.l, GridS.p]
  refine rp 1 rfl ?_
  refine Sn (Aw (Sq (Rg ?_)))
  refine rp 1 rfl ?_
  refine Wp (po_gt rfl rfl) ?_
  by_cases h1 : 0 < costN s.c i
  ·skip
   refine ws (st_po (po_bt (po_move rfl) (decide_eq_true h1)) rfl rfl rfl ?_)
   refine rp 1 rfl ?_
   refine Wp (po_lt rfl rfl) ?_
   refine rp 2 rfl ?_
   refine Sn (Aw (Rt ?_))
   refine at_ret1 rfl (rv_tmp rfl) ⟨_, ⟨by simp [openN, h1], rfl⟩, ?_⟩
   try dsimp only [ca, na, GridS.l, GridS.p]
   exact ent
  ·skip
   refine ws (st_po (po_bf (po_move rfl) (decide_eq_false h1)) rfl rfl rfl ?_)
   refine rp 4 rfl ?_
   refine Sn (Aw (Rt ?_))
   refine at_ret1 rfl (rv_tmp rfl) ⟨_, ⟨by simp [openN, h1], rfl⟩, ?_⟩
   try dsimp only [ca, na, GridS.l, GridS.p]
   exact ent
end Hd
end
section
namespace Hd
open Go
theorem sec_eq {w h c d : Int} (k : IsC w h c) (j : IsC w h d) : sectorN w h c = sectorN w h d ↔ c % w / 16 = d % w / 16 ∧ c / w / 16 = d / w / 16 := by
  have hc := sector_lt k
  have hd := sector_lt j
  constructor
  · intro e; rw [← hc.2.1, ← hc.2.2, e, hd.2.1, hd.2.2]; exact ⟨rfl, rfl⟩
  · rintro ⟨e1, e2⟩; rw [sectorN, if_pos k, sectorN, if_pos j, e1, e2]
theorem step_ok {w h c s : Int} (k : IsC w h c) (h0 : 0 ≤ s) (h1 : s ≤ 4) :
    (0 ≤ stepN w h c s ↔ (0 ≤ c % w + dx s ∧ c % w + dx s < w) ∧ (0 ≤ c / w + dy s ∧ c / w + dy s < h)) ∧
    (0 ≤ stepN w h c s → IsC w h (stepN w h c s) ∧ stepN w h c s % w = c % w + dx s ∧ stepN w h c s / w = c / w + dy s) := by
  rw [step_eq k h0 h1]
  constructor
  · constructor
    · intro e; exact ⟨(cell_is e).1.2.1, (cell_is e).1.2.2⟩
    · rintro ⟨e1, e2⟩
      have := mk_is k.1 e1 e2
      rw [cellN, if_pos ⟨k.1, e1, e2⟩]; exact this.2.1
  · intro e; exact (cell_is e).2
theorem over_ge {w h c s : Int} : 0 ≤ overN w h c s ↔ 0 ≤ stepN w h c s ∧ sectorN w h (stepN w h c s) ≠ sectorN w h c := by
  unfold overN
  split
  · rename_i e; constructor
    · intro f; omega
    · rintro ⟨f1, f2⟩; rcases e with e | e
      · omega
      · exact absurd e f2
  · rename_i e
    have e1 : ¬ stepN w h c s < 0 := fun x => e (.inl x)
    have e2 : ¬ sectorN w h (stepN w h c s) = sectorN w h c := fun x => e (.inr x)
    exact ⟨fun _ => ⟨by omega, e2⟩, fun _ => by omega⟩
theorem over_eq {w h c s : Int} (e : 0 ≤ overN w h c s) : overN w h c s = stepN w h c s := by
  unfold overN at *
  split at e
  · omega
  · rename_i f; rw [if_neg f]
theorem over_m1 {w h c s : Int} (e : ¬ 0 ≤ overN w h c s) : overN w h c s = -1 := by
  unfold overN at *
  split at e
  · rename_i f; rw [if_pos f]
  · rename_i f
    have e1 : ¬ stepN w h c s < 0 := fun x => f (.inl x)
    omega
theorem over_xy {w h c s : Int} (k : IsC w h c) (h0 : 0 ≤ s) (h1 : s ≤ 4) :
    0 ≤ overN w h c s ↔ ((0 ≤ c % w + dx s ∧ c % w + dx s < w) ∧ (0 ≤ c / w + dy s ∧ c / w + dy s < h)) ∧ ¬ ((c % w + dx s) / 16 = c % w / 16 ∧ (c / w + dy s) / 16 = c / w / 16) := by
  have hs := step_ok k h0 h1
  rw [over_ge]
  constructor
  · rintro ⟨e1, e2⟩
    obtain ⟨f1, f2, f3⟩ := hs.2 e1
    refine ⟨hs.1.1 e1, fun e => e2 ?_⟩
    rw [sec_eq f1 k, f2, f3]; exact e
  · rintro ⟨e1, e2⟩
    have e3 := hs.1.2 e1
    obtain ⟨f1, f2, f3⟩ := hs.2 e3
    refine ⟨e3, fun e => e2 ?_⟩
    rw [sec_eq f1 k, f2, f3] at e; exact e
/-- by its place in the sector: does a side lead over the edge? -/
def EdgeAt (w h s l k : Int) : Prop :=
  if k = 0 then l / (sizeN w h s).1 = 0 ∧ 0 < s / acrN w
  else if k = 1 then l % (sizeN w h s).1 = (sizeN w h s).1 - 1 ∧ s % acrN w * 16 + 16 < w
  else if k = 2 then l / (sizeN w h s).1 = (sizeN w h s).2 - 1 ∧ s / acrN w * 16 + 16 < h
  else l % (sizeN w h s).1 = 0 ∧ 0 < s % acrN w
theorem over_at {w h s l : Int} (hs : IsS w h s) (h0 : 0 ≤ l) (h1 : l < (sizeN w h s).1 * (sizeN w h s).2) {k : Int} (hk : 0 ≤ k ∧ k < 4) : 0 ≤ overN w h (globalN w h s l) k ↔ EdgeAt w h s l k := by
  obtain ⟨hc, hx, hy⟩ := global_is hs h0 h1
  have hg := global_xy hs h0 h1
  have hq := iss_xy hs
  have hz : (sizeN w h s).1 = min 16 (w - s % acrN w * 16) ∧ (sizeN w h s).2 = min 16 (h - s / acrN w * 16) := by rw [sizeN, if_pos hs]; exact ⟨rfl, rfl⟩
  rw [over_xy hc hk.1 (by omega), hx, hy]
  unfold EdgeAt
  have : k = 0 ∨ k = 1 ∨ k = 2 ∨ k = 3 := by omega
  generalize l % (sizeN w h s).1 = lx at *
  generalize l / (sizeN w h s).1 = ly at *
  rcases this with e | e | e | e <;> subst e <;> simp [dx, dy] <;> omega

theorem div_mod_eq {tw l : Int} (hw : 0 < tw) : l = l / tw * tw + l % tw := by rw [Int.mul_comm]; exact (Int.mul_ediv_add_emod l tw).symm
/-- the locals of a side -/
theorem mem_along {tw th l k : Int} (hw : 1 ≤ tw) (hh : 1 ≤ th) (h0 : 0 ≤ l) (h1 : l < tw * th) (hk : 0 ≤ k ∧ k < 4) :
    l ∈ alongN tw th k ↔ (if k = 0 then l / tw = 0 else if k = 1 then l % tw = tw - 1 else if k = 2 then l / tw = th - 1 else l % tw = 0) := by
  have e := div_mod_eq (l := l) (show 0 < tw by omega)
  have m0 := Int.emod_nonneg l (show tw ≠ 0 by omega)
  have m1 := Int.emod_lt_of_pos l (show 0 < tw by omega)
  have d0 := Int.ediv_nonneg h0 (show 0 ≤ tw by omega)
  have d1 : l / tw < th := Int.ediv_lt_of_lt_mul (by omega) (by rw [Int.mul_comm]; exact h1)
  have : k = 0 ∨ k = 1 ∨ k = 2 ∨ k = 3 := by omega
  rcases this with ek | ek | ek | ek <;> subst ek <;> simp only [alongN, List.mem_map, List.mem_range] <;> simp
  · constructor
    · rintro ⟨x, hx, rfl⟩; exact Int.ediv_eq_zero_of_lt (by omega) (by omega)
    · intro e0; rw [e0] at e; exact ⟨l.toNat, by omega, by omega⟩
  · constructor
    · rintro ⟨y, hy, rfl⟩
      have := xy_div (w := tw) (x := tw - 1) (y := (y : Int)) (by omega) (by omega)
      rw [Int.add_comm]; exact this.2
    · intro e0; exact ⟨(l / tw).toNat, by omega, by rw [Int.toNat_of_nonneg d0, Int.add_comm, ← e0]; exact e.symm⟩
  · constructor
    · rintro ⟨x, hx, rfl⟩; exact (xy_div (by omega) (by omega)).1
    · intro e0; rw [e0] at e; exact ⟨(l % tw).toNat, by omega, by rw [Int.toNat_of_nonneg m0]; exact e.symm⟩
  · constructor
    · rintro ⟨y, hy, rfl⟩
      have := xy_div (w := tw) (x := 0) (y := (y : Int)) (by omega) (by omega)
      rw [Int.add_zero] at this; exact this.2
    · intro e0; rw [e0, Int.add_zero] at e; exact ⟨(l / tw).toNat, by omega, by rw [Int.toNat_of_nonneg d0]; exact e.symm⟩
theorem along_lt {tw th k : Int} (hw : 1 ≤ tw) (hh : 1 ≤ th) (hk : 0 ≤ k ∧ k < 4) : ∀ l ∈ alongN tw th k, 0 ≤ l ∧ l < tw * th := by
  intro l hl
  have : k = 0 ∨ k = 1 ∨ k = 2 ∨ k = 3 := by omega
  rcases this with ek | ek | ek | ek <;> subst ek <;> simp only [alongN, List.mem_map, List.mem_range] at hl <;> simp at hl
  · obtain ⟨x, hx, rfl⟩ := hl
    have := mul_lt (a := (x : Int)) (b := 0) (c := tw) (d := th) (by omega) (by omega) (by omega) (by omega)
    omega
  · obtain ⟨y, hy, rfl⟩ := hl
    have := mul_lt (a := tw - 1) (b := (y : Int)) (c := tw) (d := th) (by omega) (by omega) (by omega) (by omega)
    omega
  · obtain ⟨x, hx, rfl⟩ := hl
    exact mul_lt (by omega) (by omega) (by omega) (by omega)
  · obtain ⟨y, hy, rfl⟩ := hl
    have := mul_lt (a := 0) (b := (y : Int)) (c := tw) (d := th) (by omega) (by omega) (by omega) (by omega)
    omega
theorem along_len {tw th k : Int} (hw : 1 ≤ tw ∧ tw ≤ 16) (hh : 1 ≤ th ∧ th ≤ 16) (hk : 0 ≤ k ∧ k < 4) : 1 ≤ (alongN tw th k).length ∧ (alongN tw th k).length ≤ 16 := by
  have : k = 0 ∨ k = 1 ∨ k = 2 ∨ k = 3 := by omega
  rcases this with ek | ek | ek | ek <;> subst ek <;> simp [alongN] <;> omega
/-- a side's locals lead over the edge, if one does -/
theorem over_along {w h s l : Int} (hs : IsS w h s) {k : Int} (hk : 0 ≤ k ∧ k < 4) {l0 : Int} (hl0 : l0 ∈ alongN (sizeN w h s).1 (sizeN w h s).2 k) (h0 : 0 ≤ l) (h1 : l < (sizeN w h s).1 * (sizeN w h s).2) :
    0 ≤ overN w h (globalN w h s l) k ↔ (l ∈ alongN (sizeN w h s).1 (sizeN w h s).2 k ∧ 0 ≤ overN w h (globalN w h s l0) k) := by
  have hp := size_pos hs
  have b0 := along_lt (by omega) (by omega) hk l0 hl0
  rw [mem_along (by omega) (by omega) b0.1 b0.2 hk] at hl0
  rw [over_at hs h0 h1 hk, over_at hs b0.1 b0.2 hk, mem_along (by omega) (by omega) h0 h1 hk]
  have : k = 0 ∨ k = 1 ∨ k = 2 ∨ k = 3 := by omega
  rcases this with ek | ek | ek | ek <;> subst ek <;> simp [EdgeAt] at hl0 ⊢ <;> omega

theorem step_val {w h c : Int} (k : IsC w h c) :
    (stepN w h c 0 = if 0 < c / w then c - w else -1) ∧ (stepN w h c 1 = if c % w < w - 1 then c + 1 else -1) ∧ (stepN w h c 2 = if c / w < h - 1 then c + w else -1) ∧ (stepN w h c 3 = if 0 < c % w then c - 1 else -1) := by
  have hxy := isc_xy k
  have hm := k.1
  refine ⟨?_, ?_, ?_, ?_⟩ <;> rw [step_eq k (by decide) (by decide)] <;> simp only [dx, dy] <;> unfold cellN <;> split <;> split <;> simp at * <;> first | omega | (rw [Int.add_mul]; omega) | skip
end Hd
end
section
namespace Hd
open Go
/-! ## what waits in a ring -/
def Wt (B : List Bkt) (a k it : Int) : Prop := a ≤ k ∧ k < a + 256 ∧ ∃ x, B[(k % 256).toNat]? = some x ∧ it ∈ x.q
structure RingOk (B : List Bkt) (l tot : Int) : Prop where
  len : B.length = 256
  bk : ∀ x ∈ B, (x.xs.length : Int) ≤ tot ∧ 0 ≤ x.gone ∧ x.gone ≤ x.xs.length
  cnt : l = ((B.map fun x => x.q.length).sum : Nat)

theorem sum_set {X : Type} (f : X → Nat) : ∀ (B : List X) (i : Nat) (x y : X), B[i]? = some x → ((B.set i y).map f).sum + f x = (B.map f).sum + f y
  | [], i, x, y, h => by simp at h
  | z :: B, 0, x, y, h => by simp at h; subst h; simp; omega
  | z :: B, i + 1, x, y, h => by
    have := sum_set f B i x y (by simpa using h)
    simp only [List.set_cons_succ, List.map_cons, List.sum_cons]; omega
theorem set_get {X : Type} {B : List X} {i j : Nat} {x y : X} (h : B[i]? = some x) : (B.set i y)[j]? = if i = j then some y else B[j]? := by
  rw [List.getElem?_set]
  by_cases e : i = j
  · subst e; simp [lt_of_get h]
  · simp [e]
theorem q_empty {x : Bkt} (h : 0 ≤ x.gone ∧ x.gone ≤ x.xs.length) : x.q = [] ↔ x.gone = x.xs.length := by
  unfold Bkt.q
  rw [List.drop_eq_nil_iff]; omega
theorem mem_set_cases {X : Type} {B : List X} {i : Nat} {y z : X} (h : z ∈ B.set i y) : z = y ∨ z ∈ B := by
  rcases List.mem_or_eq_of_mem_set h with e | e
  · exact .inr e
  · exact .inl e

theorem put_ok {B : List Bkt} {l tot key item : Int} {x y : Bkt} (ok : RingOk B l tot) (hx : B[(key % 256).toNat]? = some x) (hy1 : y.xs = x.xs ++ [item]) (hy2 : y.gone = x.gone) :
    RingOk (B.set (key % 256).toNat y) (l + 1) (tot + 1) ∧ ∀ a k it, a ≤ key → key < a + 256 → (Wt (B.set (key % 256).toNat y) a k it ↔ Wt B a k it ∨ (k = key ∧ it = item)) := by
  have hxb := ok.bk x (List.mem_of_getElem? hx)
  have hq : y.q = x.q ++ [item] := by
    unfold Bkt.q
    rw [hy1, hy2, List.drop_append_of_le_length (by omega)]
  refine ⟨⟨by simpa using ok.len, fun z hz => ?_, ?_⟩, fun a k it h1 h2 => ?_⟩
  · rcases mem_set_cases hz with e | e
    · subst e; rw [hy1, hy2]; simp; omega
    · have := ok.bk z e; omega
  · have := sum_set (fun x : Bkt => x.q.length) B _ x y hx
    rw [hq, List.length_append, List.length_singleton] at this
    rw [ok.cnt]; omega
  · constructor
    · rintro ⟨h3, h4, z, hz, hit⟩
      rw [set_get hx] at hz
      split at hz
      · rename_i e
        have : k = key := by omega
        subst this
        cases hz
        rw [hq, List.mem_append, List.mem_singleton] at hit
        rcases hit with hit | hit
        · exact .inl ⟨h3, h4, x, hx, hit⟩
        · exact .inr ⟨rfl, hit⟩
      · exact .inl ⟨h3, h4, z, hz, hit⟩
    · rintro (⟨h3, h4, z, hz, hit⟩ | ⟨rfl, rfl⟩)
      · refine ⟨h3, h4, ?_⟩
        rw [set_get hx]
        split
        · rename_i e
          rw [← e, hx] at hz; cases hz
          exact ⟨y, rfl, by rw [hq]; simp [hit]⟩
        · exact ⟨z, hz, hit⟩
      · refine ⟨h1, h2, y, by rw [set_get hx, if_pos rfl], by rw [hq]; simp⟩

theorem pop_ok {B : List Bkt} {l tot a k it : Int} {x y : Bkt} (ok : RingOk B l tot) (hf : FirstKey B a k) (hk : k < a + 256) (hx : B[(k % 256).toNat]? = some x) (hq : x.q = it :: y.q) (hyl : y.xs.length ≤ x.xs.length) (hyg : 0 ≤ y.gone ∧ y.gone ≤ y.xs.length) :
    RingOk (B.set (k % 256).toNat y) (l - 1) tot ∧ (∀ k' it', Wt B a k' it' → (k' = k ∧ it' = it) ∨ Wt (B.set (k % 256).toNat y) k k' it') ∧ (∀ k' it', Wt (B.set (k % 256).toNat y) k k' it' → Wt B a k' it') ∧ Wt B a k it := by
  have hxb := ok.bk x (List.mem_of_getElem? hx)
  obtain ⟨f1, f2, -⟩ := hf
  refine ⟨⟨by simpa using ok.len, fun z hz => ?_, ?_⟩, ?_, ?_, ?_⟩
  · rcases mem_set_cases hz with e | e
    · subst e; omega
    · exact ok.bk z e
  · have := sum_set (fun x : Bkt => x.q.length) B _ x y hx
    rw [hq, List.length_cons] at this
    rw [ok.cnt]; omega
  · rintro k' it' ⟨h1, h2, z, hz, hit⟩
    by_cases e : k' < k
    · have hzz := f2 k' h1 e z hz
      rw [(q_empty (ok.bk z (List.mem_of_getElem? hz)).2).2 hzz] at hit
      cases hit
    · by_cases e2 : k' = k
      · subst e2
        rw [hx] at hz; cases hz
        rw [hq, List.mem_cons] at hit
        rcases hit with hit | hit
        · exact .inl ⟨rfl, hit⟩
        · exact .inr ⟨by omega, by omega, y, by rw [set_get hx, if_pos rfl], hit⟩
      · refine .inr ⟨by omega, by omega, z, ?_, hit⟩
        rw [set_get hx, if_neg (by omega)]; exact hz
  · rintro k' it' ⟨h1, h2, z, hz, hit⟩
    rw [set_get hx] at hz
    split at hz
    · rename_i e
      cases hz
      have : k' = k := by omega
      subst this
      exact ⟨f1, by omega, x, hx, by rw [hq]; simp [hit]⟩
    · by_cases e2 : k' < a + 256
      · exact ⟨by omega, e2, z, hz, hit⟩
      · have hm : (k' - 256) % 256 = k' % 256 := by omega
        have hzz := f2 (k' - 256) (by omega) (by omega) z (by rw [hm]; exact hz)
        rw [(q_empty (ok.bk z (List.mem_of_getElem? hz)).2).2 hzz] at hit
        cases hit
  · exact ⟨f1, hk, x, hx, by rw [hq]; simp⟩

theorem sum_pos {X : Type} (f : X → Nat) : ∀ (B : List X), 0 < (B.map f).sum → ∃ (i : Nat) (x : X), B[i]? = some x ∧ 0 < f x
  | [], h => by simp at h
  | z :: B, h => by
    by_cases e : 0 < f z
    · exact ⟨0, z, rfl, e⟩
    · simp at h
      obtain ⟨i, x, hi, hx⟩ := sum_pos f B (by omega)
      exact ⟨i + 1, x, by simpa using hi, hx⟩
theorem first_ex {B : List Bkt} {l tot a : Int} (ok : RingOk B l tot) (hl : 0 < l) (ha : 0 ≤ a) : ∃ k, k < a + 256 ∧ FirstKey B a k := by
  obtain ⟨i, x, hi, hx⟩ := sum_pos (fun x : Bkt => x.q.length) B (by have := ok.cnt; omega)
  have hlt := lt_of_get hi
  rw [ok.len] at hlt
  have key : ∀ n : Nat, n ≤ 256 → (∀ j, a ≤ j → j < a + n → ∀ x, B[(j % 256).toNat]? = some x → x.gone = x.xs.length) ∨ ∃ k, k < a + n ∧ FirstKey B a k := by
    intro n
    induction n with
    | zero => intro _; exact .inl fun j h1 h2 => by omega
    | succ n ih =>
      intro hn
      rcases ih (by omega) with h | ⟨k, hk, hf⟩
      · obtain ⟨z, hz⟩ : ∃ z, B[((a + n) % 256).toNat]? = some z := ⟨_, List.getElem?_eq_getElem (by rw [ok.len]; omega)⟩
        by_cases e : z.gone = z.xs.length
        · refine .inl fun j h1 h2 x hx => ?_
          by_cases e2 : j < a + n
          · exact h j h1 e2 x hx
          · have : j = a + n := by omega
            subst this
            rw [hz] at hx; cases hx; exact e
        · exact .inr ⟨a + n, by omega, by omega, h, z, hz, e⟩
      · exact .inr ⟨k, by omega, hf⟩
  rcases key 256 (by omega) with h | h
  · exfalso
    have hxe := h (a + ((i : Int) - a) % 256) (by omega) (by omega) x (by
      have : ((a + ((i : Int) - a) % 256) % 256).toNat = i := by omega
      rw [this]; exact hi)
    have := (q_empty (ok.bk x (List.mem_of_getElem? hi)).2).2 hxe
    rw [this] at hx; simp at hx
  · exact h
theorem wt_none {B : List Bkt} {tot a k it : Int} (ok : RingOk B 0 tot) : ¬ Wt B a k it := by
  rintro ⟨h1, h2, x, hx, hit⟩
  have := sum_set (fun x : Bkt => x.q.length) B _ x x hx
  have hc := ok.cnt
  have hle : x.q.length ≤ (B.map fun x => x.q.length).sum := by
    have : ∀ (B : List Bkt) (i : Nat), B[i]? = some x → x.q.length ≤ (B.map fun x => x.q.length).sum := by
      intro B
      induction B with
      | nil => intro i h; simp at h
      | cons z B ih =>
        intro i h
        cases i with
        | zero => simp at h; subst h; simp
        | succ i => have := ih i (by simpa using h); simp; omega
    exact this B _ hx
  have : x.q.length = 0 := by omega
  rw [List.length_eq_zero_iff] at this
  rw [this] at hit; cases hit

/-! ## neighbours -/
theorem opp {w h c s : Int} (hs : 0 ≤ s ∧ s < 4) (hc : 0 ≤ stepN w h c s) : stepN w h (stepN w h c s) ((s + 2) % 4) = c ∧ IsC w h c := by
  have hic : IsC w h c := by
    apply Classical.byContradiction
    intro hn
    rw [step_none (fun k => hn k.1)] at hc; omega
  obtain ⟨k1, k2⟩ := step_ok hic hs.1 (by omega)
  obtain ⟨m1, m2, m3⟩ := k2 hc
  have hxy := isc_xy hic
  have hin := k1.1 hc
  refine ⟨?_, hic⟩
  rw [step_eq m1 (by omega) (by omega), m2, m3]
  have : s = 0 ∨ s = 1 ∨ s = 2 ∨ s = 3 := by omega
  rcases this with e | e | e | e <;> subst e <;> simp [dx, dy] at hin ⊢ <;> rw [cellN, if_pos ⟨hic.1, by omega, by omega⟩] <;> first | omega | (rw [show c / w + -1 + 1 = c / w by omega]; omega) | (rw [show c / w + 1 + -1 = c / w by omega]; omega)
theorem nb_symm {w h : Int} {C : List Int} {c m : Int} (hc : Opn C c) (hm : Nb w h C c m) : Nb w h C m c := by
  obtain ⟨ho, s, hs, e⟩ := hm
  have := opp (w := w) (h := h) (c := c) hs (by rw [e]; exact ho.1)
  rw [e] at this
  exact ⟨hc, (s + 2) % 4, by omega, this.1⟩

/-! ## the sweeper -/
def uns (d : List Int) : Nat := (d.filter fun x => decide (x = INF)).length
theorem uns_set : ∀ (d : List Int) (i : Nat) (v : Int), d[i]? = some INF → v ≠ INF → uns (d.set i v) + 1 = uns d
  | [], i, v, h, _ => by simp at h
  | x :: d, 0, v, h, hv => by simp at h; subst h; simp [uns, hv]
  | x :: d, i + 1, v, h, hv => by
    have := uns_set d i v (by simpa using h) hv
    unfold uns at *
    rw [List.set_cons_succ, List.filter_cons, List.filter_cons]
    split <;> (try simp only [List.length_cons]) <;> omega
theorem uns_le (d : List Int) : uns d ≤ d.length := List.length_filter_le _ _

/-- where a distance may come from -/
def Org (w h : Int) (C : List Int) (sd : List Seed) (d : List Int) (c k : Int) : Prop :=
  (∃ s ∈ sd, s.cell = c ∧ s.key = k) ∨ ∃ m, Nb w h C c m ∧ gAt d m ≠ INF ∧ k = gAt d m + gAt C m
/-- all keys are at most so great -/
def kb (d : List Int) : Int := 1073741824 + 255 * ((d.length : Int) - uns d)
structure Sw (w h : Int) (C : List Int) (sd : List Seed) (T : Int) (a l : Int) (B : List Bkt) (todo : List Seed) (d : List Int) (tot rem : Int) (ex : Int → Int → Prop) : Prop where
  ring : RingOk B l tot
  a0 : 0 ≤ a ∧ a ≤ kb d ∧ (1 ≤ rem → a + 255 ≤ kb d)
  dl : d.length = C.length
  dA : ∀ c : Int, 0 ≤ c → c < C.length → gAt d c = INF ∨ ((0 ≤ gAt d c ∧ gAt d c ≤ a) ∧ Opn C c ∧ Org w h C sd d c (gAt d c))
  wB : ∀ k it, Wt B a k it → Opn C it ∧ Org w h C sd d it k ∧ k ≤ kb d
  sC : ∀ s ∈ sd, s ∈ todo ∨ Wt B a s.key s.cell ∨ gAt d s.cell ≤ s.key
  rD : ∀ m c, Opn C m → gAt d m ≠ INF → Nb w h C m c → ¬ ex m c → gAt d c ≤ gAt d m + gAt C m ∨ Wt B a (gAt d m + gAt C m) c
  td : (∀ s ∈ todo, s ∈ sd ∧ a ≤ s.key) ∧ todo.Pairwise fun x y => x.key ≤ y.key
  tt : 0 ≤ tot ∧ tot + todo.length + 4 * uns d + rem ≤ T
  r0 : 0 ≤ rem

structure SwC (w h : Int) (C : List Int) (sd : List Seed) : Prop where
  may : May w h
  len : (C.length : Int) = w * h
  small : C.length ≤ 256
  bt : ∀ x ∈ C, 1 ≤ x ∧ x ≤ 255
  sdo : ∀ s ∈ sd, Opn C s.cell ∧ 0 ≤ s.key ∧ s.key ≤ 1073741824
  sl : sd.length ≤ 2^30

theorem kb_le {d : List Int} (h : d.length ≤ 256) : 1073741824 ≤ kb d ∧ kb d ≤ 1073741824 + 65280 := by
  have := uns_le d
  unfold kb; omega

section
variable {w h : Int} {C : List Int} {sd : List Seed} {T a l : Int} {B : List Bkt} {todo : List Seed} {d : List Int} {tot rem : Int} {ex : Int → Int → Prop}

theorem SwC.cost (k : SwC w h C sd) {m : Int} (hm : 0 ≤ m ∧ m < C.length) : 1 ≤ gAt C m ∧ gAt C m ≤ 255 := by
  have hl : m.toNat < C.length := by omega
  rw [gAt_get hl]; exact k.bt _ (List.getElem_mem hl)

/-- told to the ring -/
theorem Sw.put (hc : SwC w h C sd) (s : Sw w h C sd T a l B todo d tot rem ex) {ex' : Int → Int → Prop} {m c : Int} {x y : Bkt} (hr : 1 ≤ rem) (hm : Opn C m) (hd : gAt d m = a) (hnb : Nb w h C m c) (hu : gAt d c = INF)
    (hx : B[((a + gAt C m) % 256).toNat]? = some x) (hy1 : y.xs = x.xs ++ [c]) (hy2 : y.gone = x.gone) (hex : ∀ m' c', ¬ ex' m' c' → (m' = m ∧ c' = c) ∨ ¬ ex m' c') :
    Sw w h C sd T a (l + 1) (B.set ((a + gAt C m) % 256).toNat y) todo d (tot + 1) (rem - 1) ex' := by
  have hcm := hc.cost ⟨hm.1, hm.2.1⟩
  have hcm2 := hm.2.2
  have ha := s.a0
  have hkb := kb_le (d := d) (by rw [s.dl]; exact hc.small)
  have hI : INF = 1099511627776 := rfl
  have hmi : gAt d m ≠ INF := by omega
  obtain ⟨p1, p2⟩ := put_ok s.ring hx hy1 hy2
  have hw : ∀ k it, Wt (B.set ((a + gAt C m) % 256).toNat y) a k it ↔ Wt B a k it ∨ (k = a + gAt C m ∧ it = c) := fun k it => p2 a k it (by omega) (by omega)
  refine ⟨p1, ⟨ha.1, ha.2.1, fun _ => ha.2.2 hr⟩, s.dl, s.dA, fun k it hk => ?_, fun sd hsd => ?_, fun m' c' h1 h2 h3 h4 => ?_, s.td, ?_, ?_⟩
  · rcases (hw k it).1 hk with e | ⟨rfl, rfl⟩
    · exact s.wB k it e
    · refine ⟨hnb.1, .inr ⟨m, nb_symm hm hnb, hmi, by rw [hd]⟩, ?_⟩
      omega
  · rcases s.sC sd hsd with e | e | e
    · exact .inl e
    · exact .inr (.inl ((hw _ _).2 (.inl e)))
    · exact .inr (.inr e)
  · rcases hex m' c' h4 with ⟨rfl, rfl⟩ | e
    · exact .inr ((hw _ _).2 (.inr ⟨by rw [hd], rfl⟩))
    · rcases s.rD m' c' h1 h2 h3 e with f | f
      · exact .inl f
      · exact .inr ((hw _ _).2 (.inl f))
  · have := s.tt; omega
  · omega

/-- nothing to be told -/
theorem Sw.skip (s : Sw w h C sd T a l B todo d tot rem ex) {ex' : Int → Int → Prop} {rem' : Int} (h0 : 0 ≤ rem') (h1 : rem' ≤ rem)
    (hex : ∀ m c, Opn C m → gAt d m ≠ INF → Nb w h C m c → ¬ ex' m c → ¬ ex m c ∨ gAt d c ≤ gAt d m + gAt C m ∨ Wt B a (gAt d m + gAt C m) c) : Sw w h C sd T a l B todo d tot rem' ex' := by
  have ha := s.a0
  have ht := s.tt
  refine ⟨s.ring, ⟨ha.1, ha.2.1, fun e => ha.2.2 (by omega)⟩, s.dl, s.dA, s.wB, s.sC, fun m c e1 e2 e3 e4 => ?_, s.td, by omega, h0⟩
  rcases hex m c e1 e2 e3 e4 with f | f
  · exact s.rD m c e1 e2 e3 f
  · exact f
/-- the next seed is told to the ring -/
theorem Sw.feed (hc : SwC w h C sd) {s0 : Seed} (s : Sw w h C sd T a l B (s0 :: todo) d tot rem ex) {x y : Bkt} (hk : a ≤ s0.key ∧ s0.key - a < 256)
    (hx : B[(s0.key % 256).toNat]? = some x) (hy1 : y.xs = x.xs ++ [s0.cell]) (hy2 : y.gone = x.gone) :
    Sw w h C sd T a (l + 1) (B.set (s0.key % 256).toNat y) todo d (tot + 1) rem ex := by
  obtain ⟨p1, p2⟩ := put_ok s.ring hx hy1 hy2
  have hw : ∀ k it, Wt (B.set (s0.key % 256).toNat y) a k it ↔ Wt B a k it ∨ (k = s0.key ∧ it = s0.cell) := fun k it => p2 a k it (by omega) (by omega)
  have h0 := s.td.1 s0 (by simp)
  have hs0 := hc.sdo s0 h0.1
  have hkb := kb_le (d := d) (by rw [s.dl]; exact hc.small)
  have ht := s.tt
  refine ⟨p1, s.a0, s.dl, s.dA, fun k it hk => ?_, fun z hz => ?_, fun m' c' h1 h2 h3 h4 => ?_, ⟨fun z hz => s.td.1 z (by simp [hz]), (List.pairwise_cons.1 s.td.2).2⟩, ?_, s.r0⟩
  · rcases (hw k it).1 hk with e | ⟨rfl, rfl⟩
    · exact s.wB k it e
    · exact ⟨hs0.1, .inl ⟨s0, h0.1, rfl, rfl⟩, by omega⟩
  · rcases s.sC z hz with e | e | e
    · rcases List.mem_cons.1 e with e | e
      · subst e; exact .inr (.inl ((hw _ _).2 (.inr ⟨rfl, rfl⟩)))
      · exact .inl e
    · exact .inr (.inl ((hw _ _).2 (.inl e)))
    · exact .inr (.inr e)
  · rcases s.rD m' c' h1 h2 h3 h4 with f | f
    · exact .inl f
    · exact .inr ((hw _ _).2 (.inl f))
  · simp at ht; omega
/-- the ring goes on to the next seed, when nothing waits -/
theorem Sw.jump (hc : SwC w h C sd) {s0 : Seed} (s : Sw w h C sd T a 0 B (s0 :: todo) d tot 0 ex) : Sw w h C sd T s0.key 0 B (s0 :: todo) d tot 0 ex := by
  have h0 := s.td.1 s0 (by simp)
  have hs0 := hc.sdo s0 h0.1
  have hkb := kb_le (d := d) (by rw [s.dl]; exact hc.small)
  have hp := List.pairwise_cons.1 s.td.2
  have nw : ∀ {a k it : Int}, ¬ Wt B a k it := wt_none s.ring
  refine ⟨s.ring, ⟨hs0.2.1, by omega, fun e => by omega⟩, s.dl, fun c e1 e2 => ?_, fun k it e => absurd e nw, fun z hz => ?_, fun m c e1 e2 e3 e4 => ?_, ⟨fun z hz => ?_, s.td.2⟩, s.tt, s.r0⟩
  · rcases s.dA c e1 e2 with f | ⟨f1, f2⟩
    · exact .inl f
    · exact .inr ⟨by omega, f2⟩
  · rcases s.sC z hz with e | e | e
    · exact .inl e
    · exact absurd e nw
    · exact .inr (.inr e)
  · rcases s.rD m c e1 e2 e3 e4 with f | f
    · exact .inl f
    · exact absurd f nw
  · refine ⟨(s.td.1 z hz).1, ?_⟩
    rcases List.mem_cons.1 hz with e | e
    · subst e; exact Int.le_refl _
    · exact hp.1 z e
def exK (w h loc k m c : Int) : Prop := m = loc ∧ ∃ s : Int, (k ≤ s ∧ s < 4) ∧ stepN w h loc s = c
def ex0 (_ _ : Int) : Prop := False

theorem gAt_oob {d : List Int} {c : Int} (h : ¬ c.toNat < d.length) : gAt d c = 0 := by simp [gAt, List.getElem?_eq_none (Nat.le_of_not_lt h)]

/-- an entry whose local is known already -/
theorem Sw.popOld {k it : Int} {x y : Bkt} (s : Sw w h C sd T a l B todo d tot 0 ex0) (hf : FirstKey B a k) (hk : k < a + 256) (hx : B[(k % 256).toNat]? = some x) (hq : x.q = it :: y.q) (hyl : y.xs.length ≤ x.xs.length) (hyg : 0 ≤ y.gone ∧ y.gone ≤ y.xs.length)
    (hz : ∀ z ∈ todo, a + 256 ≤ z.key) (hd : gAt d it ≠ INF) : Sw w h C sd T k (l - 1) (B.set (k % 256).toNat y) todo d tot 0 ex0 := by
  obtain ⟨p1, p2, p3, p4⟩ := pop_ok s.ring hf hk hx hq hyl hyg
  have hw := s.wB k it p4
  have ha := s.a0
  have hf1 := hf.1
  have hdi : gAt d it ≤ k := by
    rcases s.dA it hw.1.1 hw.1.2.1 with f | ⟨f1, f2⟩
    · exact absurd f hd
    · omega
  refine ⟨p1, ⟨by omega, hw.2.2, fun e => by omega⟩, s.dl, fun c e1 e2 => ?_, fun k' it' e => s.wB k' it' (p3 k' it' e), fun z hz => ?_, fun m c e1 e2 e3 e4 => ?_, ⟨fun z h => ⟨(s.td.1 z h).1, by have := hz z h; omega⟩, s.td.2⟩, s.tt, s.r0⟩
  · rcases s.dA c e1 e2 with f | ⟨f1, f2⟩
    · exact .inl f
    · exact .inr ⟨by omega, f2⟩
  · rcases s.sC z hz with e | e | e
    · exact .inl e
    · rcases p2 _ _ e with ⟨f1, f2⟩ | f
      · rw [f2]; exact .inr (.inr (by omega))
      · exact .inr (.inl f)
    · exact .inr (.inr e)
  · rcases s.rD m c e1 e2 e3 e4 with f | f
    · exact .inl f
    · rcases p2 _ _ f with ⟨f1, f2⟩ | f
      · rw [f2]; exact .inl (by omega)
      · exact .inr f
/-- an entry whose local is not known yet -/
theorem Sw.popNew (hc : SwC w h C sd) {k it : Int} {x y : Bkt} (s : Sw w h C sd T a l B todo d tot 0 ex0) (hf : FirstKey B a k) (hk : k < a + 256) (hx : B[(k % 256).toNat]? = some x) (hq : x.q = it :: y.q) (hyl : y.xs.length ≤ x.xs.length) (hyg : 0 ≤ y.gone ∧ y.gone ≤ y.xs.length)
    (hz : ∀ z ∈ todo, a + 256 ≤ z.key) (hd : gAt d it = INF) : Sw w h C sd T k (l - 1) (B.set (k % 256).toNat y) todo (d.set it.toNat k) tot 4 (exK w h it 0) := by
  have hI : INF = 1099511627776 := rfl
  obtain ⟨p1, p2, p3, p4⟩ := pop_ok s.ring hf hk hx hq hyl hyg
  have hw := s.wB k it p4
  have ha := s.a0
  have hf1 := hf.1
  have hkb := kb_le (d := d) (by rw [s.dl]; exact hc.small)
  have hit : it.toNat < d.length := by have := hw.1; unfold Opn at this; rw [s.dl]; omega
  have hitl : 0 ≤ it ∧ it < d.length := by have := hw.1; unfold Opn at this; rw [s.dl]; omega
  have hun := uns_set d it.toNat k (by rw [List.getElem?_eq_getElem hit, ← gAt_get hit, hd]) (by omega)
  have hkb2 : kb (d.set it.toNat k) = kb d + 255 := by unfold kb; rw [List.length_set]; omega
  have hg : ∀ j, 0 ≤ j → gAt (d.set it.toNat k) j = if j = it then k else gAt d j := fun j hj => gAt_set hitl.1 hitl.2 hj
  have hst : ∀ m, Opn C m → gAt d m ≠ INF → gAt (d.set it.toNat k) m = gAt d m := fun m hm hn => by
    rw [hg m hm.1, if_neg (fun e => hn (by rw [e, hd]))]
  have horg : ∀ c k', Org w h C sd d c k' → Org w h C sd (d.set it.toNat k) c k' := by
    rintro c k' (e | ⟨m, e1, e2, e3⟩)
    · exact .inl e
    · exact .inr ⟨m, e1, by rw [hst m e1.1 e2]; exact e2, by rw [hst m e1.1 e2]; exact e3⟩
  have ht := s.tt
  refine ⟨p1, ⟨by omega, by omega, fun e => by omega⟩, by rw [List.length_set]; exact s.dl, fun c e1 e2 => ?_, fun k' it' e => ?_, fun z hz => ?_, fun m c e1 e2 e3 e4 => ?_, ⟨fun z h => ⟨(s.td.1 z h).1, by have := hz z h; omega⟩, s.td.2⟩, ?_, by omega⟩
  · rw [hg c e1]
    split
    · rename_i e; subst e; exact .inr ⟨by omega, hw.1, horg _ _ hw.2.1⟩
    · rcases s.dA c e1 e2 with f | ⟨f1, f2, f3⟩
      · exact .inl f
      · exact .inr ⟨by omega, f2, horg _ _ f3⟩
  · have f := s.wB k' it' (p3 k' it' e)
    exact ⟨f.1, horg _ _ f.2.1, by omega⟩
  · have hzs := hc.sdo z hz
    rcases s.sC z hz with e | e | e
    · exact .inl e
    · rcases p2 _ _ e with ⟨f1, f2⟩ | f
      · rw [f2, hg it hitl.1, if_pos rfl]; exact .inr (.inr (by omega))
      · exact .inr (.inl f)
    · rw [hg z.cell hzs.1.1]
      split
      · rename_i e2; rw [e2, hd] at e; omega
      · exact .inr (.inr e)
  · have hmi : m ≠ it := by
      rintro rfl
      obtain ⟨f1, s', f2, f3⟩ := e3
      exact e4 ⟨rfl, s', f2, f3⟩
    rw [hg m e1.1, if_neg hmi] at e2 ⊢
    have hcm := hc.cost ⟨e1.1, e1.2.1⟩
    have hdm := s.dA m e1.1 e1.2.1
    rw [hg c e3.1.1]
    split
    · rename_i e5
      rcases s.rD m c e1 e2 e3 (fun f => f) with f | f
      · rw [e5, hd] at f
        rcases hdm with g | g
        · exact absurd g e2
        · omega
      · rcases p2 _ _ f with ⟨f1, f2⟩ | f
        · exact .inl (by omega)
        · exact .inl f.1
    · rename_i e5
      rcases s.rD m c e1 e2 e3 (fun f => f) with f | f
      · exact .inl f
      · rcases p2 _ _ f with ⟨f1, f2⟩ | f
        · exact absurd f2 e5
        · exact .inr f
  · omega

/-- a list as a function on cells -/
def dF (d : List Int) (c : Int) : Int := if 0 ≤ c ∧ c < d.length then gAt d c else INF
def srcS (sd : List Seed) (c k : Int) : Prop := ∃ s ∈ sd, s.cell = c ∧ s.key = k
/-- at the end -/
theorem Sw.done (hc : SwC w h C sd) (s : Sw w h C sd T a 0 B [] d tot 0 ex0) : IsDist w h C (srcS sd) (dF d) := by
  have hI : INF = 1099511627776 := rfl
  have nw : ∀ {a k it : Int}, ¬ Wt B a k it := wt_none s.ring
  have hkb := kb_le (d := d) (by rw [s.dl]; exact hc.small)
  have ha := s.a0
  have hin : ∀ c, Opn C c → dF d c = gAt d c := fun c hc => by rw [dF, if_pos (by rw [s.dl]; exact ⟨hc.1, hc.2.1⟩)]
  have hA : ∀ c, dF d c = INF ∨ ((0 ≤ dF d c ∧ dF d c ≤ a) ∧ Opn C c ∧ Org w h C sd d c (dF d c)) := fun c => by
    unfold dF
    split
    · rename_i e; rw [s.dl] at e; exact s.dA c e.1 e.2
    · exact .inl rfl
  refine ⟨fun c hn => ?_, fun c => ?_, fun c k ⟨z, hz, e1, e2⟩ => ?_, fun c m e1 e2 e3 => ?_, fun c => ?_⟩
  · rcases hA c with e | e
    · exact e
    · exact absurd e.2.1 hn
  · rcases hA c with e | e
    · exact .inl e
    · exact .inr (by omega)
  · have ho := hc.sdo z hz
    rw [← e1, ← e2, hin _ ho.1]
    rcases s.sC z hz with f | f | f
    · cases f
    · exact absurd f nw
    · exact f
  · rw [hin c e1]
    rw [hin m e2.1] at e3 ⊢
    rcases s.rD m c e2.1 (by omega) (nb_symm e1 e2) (fun f => f) with f | f
    · exact f
    · exact absurd f nw
  · rcases hA c with e | ⟨e1, e2, e3⟩
    · exact .inl e
    · rcases e3 with f | ⟨m, f1, f2, f3⟩
      · exact .inr (.inl f)
      · refine .inr (.inr ⟨m, f1, ?_, by rw [hin m f1.1]; exact f3⟩)
        have := s.dA m f1.1.1 f1.1.2.1
        rw [hin m f1.1]; omega
/-- at the beginning -/
theorem Sw.start (hc : SwC w h C sd) (todo : List Seed) (h1 : ∀ s, s ∈ todo ↔ s ∈ sd) (h2 : todo.Pairwise fun x y => x.key ≤ y.key) (hT : (todo.length : Int) + 4 * C.length ≤ T) :
    Sw w h C sd T 0 0 noB todo (List.replicate C.length INF) 0 0 ex0 := by
  have hr : RingOk noB 0 0 := by
    refine ⟨by rw [noB, List.length_replicate], fun x hx => ?_, ?_⟩
    · have := List.eq_of_mem_replicate hx; subst this; simp
    · rw [noB, List.map_replicate, List.sum_replicate_nat]; simp [Bkt.q]
  have hu : uns (List.replicate C.length INF) = C.length := by simp [uns]
  have hkb := kb_le (d := List.replicate C.length INF) (by simpa using hc.small)
  have hg : ∀ c : Int, 0 ≤ c → c < C.length → gAt (List.replicate C.length INF) c = INF := fun c e1 e2 => by
    rw [gAt_get (by simp; omega)]; simp
  have nw : ∀ {a k it : Int}, ¬ Wt noB a k it := wt_none hr
  refine ⟨hr, ⟨by omega, by omega, fun e => by omega⟩, by simp, fun c e1 e2 => .inl (hg c e1 e2), fun k it e => absurd e nw, fun s hs => .inl ((h1 s).2 hs), fun m c e1 e2 _ _ => absurd (hg m e1.1 e1.2.1) e2, ⟨fun s hs => ⟨(h1 s).1 hs, (hc.sdo s ((h1 s).1 hs)).2.1⟩, h2⟩, ?_, by omega⟩
  rw [hu]; omega
end
end Hd
end
section
namespace Hd
set_option maxRecDepth 100000
open Go

theorem may_s {t : Tile} {l : List Seed} : (!decide (∃ x ∈ l, (fun s => !decide (MaySd t s)) x = true)) = decide (∀ s ∈ l, MaySd t s) := by
  rw [← decide_not]; refine decide_eq_decide.2 ?_
  constructor
  · intro h s hs
    by_cases e : MaySd t s
    · exact e
    · exact absurd ⟨s, hs, by simp [e]⟩ h
  · rintro h ⟨s, hs, e⟩
    simp [h s hs] at e

theorem seeds_May (tc lv : Value) (t : Tile) (l : List Seed) (hl : t.c.length ≤ 2^30) (hl2 : l.length ≤ 2^30) : Spec PP 82 #[tileV tc t, lv] [Sl eB tc t.c, Sl eS lv l] (fun v M => v = .bool (decide (MayS t l)) ∧ M = [Sl eB tc t.c, Sl eS lv l]) := by
  refine spec_of (Go.Proofs.Tryz.func82) rfl rfl rfl (by exact fc_enters_82) ?_
  intro g F
  try dsimp only [ca, na]
  refine Sq (Rg ?_)
  refine Wx (xo_box rfl rfl) ?_
  rintro _ _ ⟨b2, rfl, rfl⟩
  refine rp 1 rfl ?_
  refine Sn (Aw (Sq (Sq (Rg ?_))))
  refine Wp (po_loada rfl (by exact fc_agg_41_3) (by rfl)) ?_
  refine Wc (co_fn rfl rfl) (tile_May tc t hl) ?_
  rintro v6 _ ⟨rfl, rfl⟩
  try dsimp only [ca, na]
  refine Wp (po_not rfl) ?_
  refine Sn (Aw ?_)
  refine Rc rfl ?_ ?_
  ·skip
   intro h
   refine Sq (Rg ?_)
   refine rp 1 rfl ?_
   refine Sn (Aw (Rt (Ar ?_)))
   refine at_ret1 rfl (rv_tmp rfl) ⟨_, ⟨by rw [decide_eq_false (fun k => h k.1)], rfl⟩, ?_⟩
   try dsimp only [ca, na]
   exact ent
  ·skip
   intro h
   refine Sk (Aw (Sq (Rg ?_)))
   refine rp 1 rfl ?_
   refine Wp (po_func rfl rfl) ?_
   refine Wc (co_fn rfl rfl) (contains_S 107 [.pointer (some ⟨b2, 0, none⟩)] (All [tileB b2 tc t, Sl eB tc t.c]) (fun s => !decide (MaySd t s)) lv l hl2 (fun x => (seeds_May1 b2 tc t x hl h.1 h.2.1).all)) ?_
   rintro v10 _ ⟨rfl, rfl⟩
   try dsimp only [ca, na]
   refine Wp (po_not rfl) ?_
   refine rp 1 rfl ?_
   refine Sn (Aw (Rt ?_))
   refine at_ret1 rfl (rv_tmp rfl) ⟨_, ⟨by rw [may_s]; simp [MayS, h], rfl⟩, ?_⟩
   try dsimp only [ca, na]
   exact ent

/-- 8.2 -/
def bestF (c s : Int) (bo : Int × Bool) (x : Seed) : Int × Bool := if x.cell = c ∧ x.side = s ∧ (bo.2 = false ∨ x.key < bo.1) then (x.key, true) else bo
def bestN (l : List Seed) (c s : Int) : Int := (l.foldl (bestF c s) (1099511627776, false)).1

theorem seeds_Best (lv : Value) (l : List Seed) (c s : Int) (hl : l.length ≤ 2^30) : Spec PP 86 #[lv, .int .i64 c, .int .i64 s] [Sl eS lv l] (fun v M => v = .int .i64 (bestN l c s) ∧ M = [Sl eS lv l]) := by
  refine spec_of (Go.Proofs.Tryz.func86) rfl rfl rfl (by exact fc_enters_86) ?_
  intro g F
  try dsimp only [ca, na]
  refine Sq (Rg ?_)
  refine rp 1 rfl ?_
  refine Sn (Aw (Sq (Rg ?_)))
  refine rp 2 rfl ?_
  refine Sn (Aw (Sq (Sq (Rg ?_))))
  refine rp 1 rfl ?_
  refine Wp (po_len rfl (by exact fc_slice_32_45_3)) ?_
  refine rp 1 rfl ?_
  refine Sn (Aw (Bk ?_))
  refine r_loop (S := Nat × Int × Bool) (fun ⟨k, b, o⟩ => [(7, .int .i64 b), (8, .bool o), (13, .int .i64 k)]) [(1, _), (2, _), (11, _), (12, _)] (fun ⟨k, b, o⟩ => [Sl eS lv l, F]) (fun ⟨k, b, o⟩ => k ≤ l.length ∧ (l.take k).foldl (bestF c s) (1099511627776, false) = (b, o)) (fun ⟨k, b, o⟩ => l.length - k) ((0, 1099511627776, false)) (And.intro rfl (And.intro rfl (And.intro rfl (And.intro rfl (trivial))))) (And.intro rfl (And.intro rfl (And.intro rfl (trivial)))) (⟨by omega, rfl⟩) ent ?_
  rintro ⟨k, b, o⟩ ⟨hk, hI⟩
  try dsimp only [ca, na]
  refine Sq (Rg ?_)
  refine Wp (po_lt rfl rfl) ?_
  refine Sn (Aw (Sq ?_))
  refine Rc rfl ?_ ?_
  ·skip
   intro hlt
   cases o
   ·skip
    refine Sk (Aw (Sq (Bk (Sq (Rg ?_)))))
    refine Wp (po_iaddr rfl rfl (by exact fc_slice_32_45_3) (by first | omega | (simp <;> omega)) (by first | omega | (simp <;> omega))) ?_
    refine Wp (ld_eS rfl (List.getElem?_eq_getElem (by first | omega | (simp <;> omega))) (by exact fc_agg_45_3)) ?_
    refine Wx (xo_alloc (by exact fc_zero_45)) ?_
    rintro _ _ ⟨b10, rfl, rfl⟩
    refine Ws (so_storea1 rfl rfl (by exact fc_agg_45_3) rfl rfl) ?_
    refine Sn (Aw (Sq (Rg ?_)))
    refine Wp (po_faddr rfl (by exact fc_field_45_0_0)) ?_
    refine Wp (po_load rfl (by exact fc_flat_3) (by rfl)) ?_
    refine rp 1 rfl ?_
    refine Wp (po_eq rfl rfl) ?_
    by_cases h1 : (l[k]'(by omega)).cell = c
    ·skip
     refine ws (st_po (po_bt (po_move rfl) (decide_eq_true h1)) rfl rfl rfl ?_)
     refine Wp (po_faddr rfl (by exact fc_field_45_1_1)) ?_
     refine Wp (po_load rfl (by exact fc_flat_3) (by rfl)) ?_
     refine rp 1 rfl ?_
     refine Wp (po_eq rfl rfl) ?_
     refine rp 1 rfl ?_
     by_cases h2 : (l[k]'(by omega)).side = s
     ·skip
      refine ws (st_po (po_bt (po_move rfl) (decide_eq_true h2)) rfl rfl rfl ?_)
      refine rp 1 rfl ?_
      refine Wp (po_not rfl) ?_
      refine Wp (po_bt (po_move rfl) (rfl)) ?_
      refine rp 6 rfl ?_
      refine Sn (Aw ?_)
      refine r_cond_t rfl rfl ?_
      refine Rg ?_
      refine Wp (po_faddr rfl (by exact fc_field_45_2_2)) ?_
      refine Wp (po_load rfl (by exact fc_flat_3) (by rfl)) ?_
      refine rp 2 rfl ?_
      refine Sn (Bn (Aw (Rg ?_)))
      refine Wp (po_add' rfl rfl (by omega) (by omega)) ?_
      refine rp 1 rfl ?_
      refine Sn ?_
      exact at_again ((k + 1, (l[k]'(by omega)).key, true)) (And.intro rfl (And.intro rfl (And.intro rfl (trivial)))) (And.intro rfl (And.intro rfl (And.intro rfl (And.intro rfl (trivial))))) (⟨by omega, by rw [take_snoc l k (by omega), List.foldl_append, hI]; simp [bestF, h1, h2]⟩) (by omega) ent
     ·skip
      refine ws (st_po (po_bf (po_move rfl) (decide_eq_false h2)) rfl rfl rfl ?_)
      refine rp 9 rfl ?_
      refine Sn (Aw ?_)
      refine r_cond_f rfl rfl ?_
      refine Sk (Bn (Aw (Rg ?_)))
      refine Wp (po_add' rfl rfl (by omega) (by omega)) ?_
      refine rp 1 rfl ?_
      refine Sn ?_
      exact at_again ((k + 1, b, false)) (And.intro rfl (And.intro rfl (And.intro rfl (trivial)))) (And.intro rfl (And.intro rfl (And.intro rfl (And.intro rfl (trivial))))) (⟨by omega, by rw [take_snoc l k (by omega), List.foldl_append, hI]; simp [bestF, h1, h2]⟩) (by omega) ent
    ·skip
     refine ws (st_po (po_bf (po_move rfl) (decide_eq_false h1)) rfl rfl rfl ?_)
     refine rp 15 rfl ?_
     refine Sn (Aw ?_)
     refine r_cond_f rfl rfl ?_
     refine Sk (Bn (Aw (Rg ?_)))
     refine Wp (po_add' rfl rfl (by omega) (by omega)) ?_
     refine rp 1 rfl ?_
     refine Sn ?_
     exact at_again ((k + 1, b, false)) (And.intro rfl (And.intro rfl (And.intro rfl (trivial)))) (And.intro rfl (And.intro rfl (And.intro rfl (And.intro rfl (trivial))))) (⟨by omega, by rw [take_snoc l k (by omega), List.foldl_append, hI]; simp [bestF, h1]⟩) (by omega) ent
   ·skip
    refine Sk (Aw (Sq (Bk (Sq (Rg ?_)))))
    refine Wp (po_iaddr rfl rfl (by exact fc_slice_32_45_3) (by first | omega | (simp <;> omega)) (by first | omega | (simp <;> omega))) ?_
    refine Wp (ld_eS rfl (List.getElem?_eq_getElem (by first | omega | (simp <;> omega))) (by exact fc_agg_45_3)) ?_
    refine Wx (xo_alloc (by exact fc_zero_45)) ?_
    rintro _ _ ⟨b10, rfl, rfl⟩
    refine Ws (so_storea1 rfl rfl (by exact fc_agg_45_3) rfl rfl) ?_
    refine Sn (Aw (Sq (Rg ?_)))
    refine Wp (po_faddr rfl (by exact fc_field_45_0_0)) ?_
    refine Wp (po_load rfl (by exact fc_flat_3) (by rfl)) ?_
    refine rp 1 rfl ?_
    refine Wp (po_eq rfl rfl) ?_
    by_cases h1 : (l[k]'(by omega)).cell = c
    ·skip
     refine ws (st_po (po_bt (po_move rfl) (decide_eq_true h1)) rfl rfl rfl ?_)
     refine Wp (po_faddr rfl (by exact fc_field_45_1_1)) ?_
     refine Wp (po_load rfl (by exact fc_flat_3) (by rfl)) ?_
     refine rp 1 rfl ?_
     refine Wp (po_eq rfl rfl) ?_
     refine rp 1 rfl ?_
     by_cases h2 : (l[k]'(by omega)).side = s
     ·skip
      refine ws (st_po (po_bt (po_move rfl) (decide_eq_true h2)) rfl rfl rfl ?_)
      refine rp 1 rfl ?_
      refine Wp (po_not rfl) ?_
      refine Wp (po_bf (po_move rfl) (rfl)) ?_
      refine Wp (po_faddr rfl (by exact fc_field_45_2_2)) ?_
      refine Wp (po_load rfl (by exact fc_flat_3) (by rfl)) ?_
      refine rp 1 rfl ?_
      refine Wp (po_lt rfl rfl) ?_
      refine rp 2 rfl ?_
      refine Sn (Aw ?_)
      refine Rc rfl ?_ ?_
      ·skip
       intro h3
       refine Rg ?_
       refine Wp (po_faddr rfl (by exact fc_field_45_2_2)) ?_
       refine Wp (po_load rfl (by exact fc_flat_3) (by rfl)) ?_
       refine rp 2 rfl ?_
       refine Sn (Bn (Aw (Rg ?_)))
       refine Wp (po_add' rfl rfl (by omega) (by omega)) ?_
       refine rp 1 rfl ?_
       refine Sn ?_
       simp only [Int.toNat_natCast] at h3
       exact at_again ((k + 1, (l[k]'(by omega)).key, true)) (And.intro rfl (And.intro rfl (And.intro rfl (trivial)))) (And.intro rfl (And.intro rfl (And.intro rfl (And.intro rfl (trivial))))) (⟨by omega, by rw [take_snoc l k (by omega), List.foldl_append, hI]; simp [bestF, h1, h2, h3]⟩) (by omega) ent
      ·skip
       intro h3
       refine Sk (Bn (Aw (Rg ?_)))
       refine Wp (po_add' rfl rfl (by omega) (by omega)) ?_
       refine rp 1 rfl ?_
       refine Sn ?_
       simp only [Int.toNat_natCast] at h3
       exact at_again ((k + 1, b, true)) (And.intro rfl (And.intro rfl (And.intro rfl (trivial)))) (And.intro rfl (And.intro rfl (And.intro rfl (And.intro rfl (trivial))))) (⟨by omega, by rw [take_snoc l k (by omega), List.foldl_append, hI]; simp [bestF, h1, h2, h3]⟩) (by omega) ent
     ·skip
      refine ws (st_po (po_bf (po_move rfl) (decide_eq_false h2)) rfl rfl rfl ?_)
      refine rp 9 rfl ?_
      refine Sn (Aw ?_)
      refine r_cond_f rfl rfl ?_
      refine Sk (Bn (Aw (Rg ?_)))
      refine Wp (po_add' rfl rfl (by omega) (by omega)) ?_
      refine rp 1 rfl ?_
      refine Sn ?_
      exact at_again ((k + 1, b, true)) (And.intro rfl (And.intro rfl (And.intro rfl (trivial)))) (And.intro rfl (And.intro rfl (And.intro rfl (And.intro rfl (trivial))))) (⟨by omega, by rw [take_snoc l k (by omega), List.foldl_append, hI]; simp [bestF, h1, h2]⟩) (by omega) ent
    ·skip
     refine ws (st_po (po_bf (po_move rfl) (decide_eq_false h1)) rfl rfl rfl ?_)
     refine rp 15 rfl ?_
     refine Sn (Aw ?_)
     refine r_cond_f rfl rfl ?_
     refine Sk (Bn (Aw (Rg ?_)))
     refine Wp (po_add' rfl rfl (by omega) (by omega)) ?_
     refine rp 1 rfl ?_
     refine Sn ?_
     exact at_again ((k + 1, b, true)) (And.intro rfl (And.intro rfl (And.intro rfl (trivial)))) (And.intro rfl (And.intro rfl (And.intro rfl (And.intro rfl (trivial))))) (⟨by omega, by rw [take_snoc l k (by omega), List.foldl_append, hI]; simp [bestF, h1]⟩) (by omega) ent
  ·skip
   intro hlt
   have e : l.take k = l := List.take_of_length_le (by omega)
   rw [e] at hI
   refine Ex' (Ax (Ax (Bh (Aw (Sq (Rg ?_))))))
   refine rp 2 rfl ?_
   refine Sn (Aw (Rt ?_))
   refine at_ret1 rfl (rv_tmp rfl) ⟨_, ⟨by rw [bestN, hI], rfl⟩, ?_⟩
   try dsimp only [ca, na]
   exact ent
end Hd
end
section
namespace Hd
set_option maxRecDepth 100000
open Go

theorem seed_ne {xs : List Seed} {i j : Nat} {a b : Seed} (h : a ≠ b) (ha : xs[j]? = some a) (hb : xs[i]? = some b) {hi : i < xs.length} {hj : j < xs.length} : ¬ (xs[j].cell = xs[i].cell ∧ xs[j].side = xs[i].side ∧ xs[j].key = xs[i].key) := by
  rw [List.getElem?_eq_getElem hj] at ha
  rw [List.getElem?_eq_getElem hi] at hb
  cases ha; cases hb
  rintro ⟨h1, h2, h3⟩
  apply h
  generalize xs[j] = x at *; generalize xs[i] = y at *
  cases x; cases y; simp_all
theorem compact_S (s : Value) (xs : List Seed) (hl : xs.length ≤ 2^30) (hd : ∀ i, (h : i + 1 < xs.length) → xs[i + 1] ≠ xs[i]) : Spec PP 78 #[s] [Sl eS s xs] (fun v M => v = s ∧ M = [Sl eS s xs]) := by
  refine spec_of (Go.Proofs.Tryz.func78) rfl rfl rfl (by exact fc_enters_78) ?_
  intro g F
  try dsimp only [ca, na]
  refine Sq (Rg ?_)
  refine rp 1 rfl ?_
  refine Sn (Aw (Sq (Sq (Rg ?_))))
  refine rp 1 rfl ?_
  refine Wp (po_len rfl (by exact fc_slice_32_45_3)) ?_
  refine Wp (po_lt rfl rfl) ?_
  refine Sn (Aw ?_)
  refine Rc rfl ?_ ?_
  ·skip
   intro h0
   refine Sq (Rg ?_)
   refine rp 2 rfl ?_
   refine Sn (Aw (Rt (Ar ?_)))
   refine at_ret1 rfl (rv_tmp rfl) ⟨_, ⟨rfl, rfl⟩, ?_⟩
   try dsimp only [ca, na]
   exact ent
  ·skip
   intro h0
   refine Sk (Aw (Sq (Sq (Rg ?_))))
   refine rp 1 rfl ?_
   refine Sn (Aw (Bk ?_))
   refine r_loop (S := Nat) (fun k => [(3, .int .i64 k)]) [(0, _)] (fun k => [Sl eS s xs, F]) (fun k => 1 ≤ k ∧ k ≤ xs.length) (fun k => xs.length - k) (1) (And.intro rfl (trivial)) (And.intro rfl (trivial)) (by omega) ent ?_
   rintro k ⟨hk1, hk2⟩
   try dsimp only [ca, na]
   refine Sq (Sq (Rg ?_))
   refine rp 2 rfl ?_
   refine Wp (po_len rfl (by exact fc_slice_32_45_3)) ?_
   refine Wp (po_lt rfl rfl) ?_
   refine Sn (Aw ?_)
   refine Rc rfl ?_ ?_
   ·skip
    intro hlt
    refine Sk (Aw (Sq (Bk (Sq ?_))))
    refine r_ord [] _ [(0, 1), (1, 1), (2, 0), (3, 0), (4, 1), (5, 1), (6, 1), (7, 0), (8, 0), (9, 1)] fc_mixed (by kernel_rfl) (fun _ h => h) ?_
    refine Of rfl (po_move rfl) ?_
    refine Of rfl (po_move rfl) ?_
    refine Or rfl (po_iaddr rfl rfl (by exact fc_slice_32_45_3) (by first | omega | (simp <;> omega)) (by first | omega | (simp <;> omega))) ?_
    refine Or rfl (ld_eS rfl (List.getElem?_eq_getElem (by first | omega | (simp <;> omega))) (by exact fc_agg_45_3)) ?_
    refine Of rfl (po_move rfl) ?_
    refine Of rfl (po_move rfl) ?_
    refine Of rfl (po_sub' rfl rfl (by omega) (by omega)) ?_
    refine Or rfl (po_iaddr rfl rfl (by exact fc_slice_32_45_3) (by first | omega | (simp <;> omega)) (by first | omega | (simp <;> omega))) ?_
    refine Or rfl (ld_eS rfl (List.getElem?_eq_getElem (by first | omega | (simp <;> omega))) (by exact fc_agg_45_3)) ?_
    refine Of rfl (po_st3eq rfl rfl (by exact fc_st3_45)) ?_
    refine o_nil ?_
    refine Aw ?_
    first | refine r_dec_f rfl (seed_ne (hd (k - 1) (by omega)) (i := ((k : Int) - 1).toNat) (j := (k : Int).toNat) (by rw [← List.getElem?_eq_getElem]; congr 1; omega) (by rw [← List.getElem?_eq_getElem]; congr 1; omega)) ?_ | refine r_nd_f rfl (seed_ne (hd (k - 1) (by omega)) (i := ((k : Int) - 1).toNat) (j := (k : Int).toNat) (by rw [← List.getElem?_eq_getElem]; congr 1; omega) (by rw [← List.getElem?_eq_getElem]; congr 1; omega)) ?_ | refine r_cond_f rfl (seed_ne (hd (k - 1) (by omega)) (i := ((k : Int) - 1).toNat) (j := (k : Int).toNat) (by rw [← List.getElem?_eq_getElem]; congr 1; omega) (by rw [← List.getElem?_eq_getElem]; congr 1; omega)) ?_
    refine Sk (Bn (Aw (Rg ?_)))
    refine rp 1 rfl ?_
    refine Wp (po_add' rfl rfl (by omega) (by omega)) ?_
    refine rp 1 rfl ?_
    refine Sn ?_
    exact at_again (k + 1) (And.intro rfl (trivial)) (And.intro rfl (trivial)) (by omega) (by omega) ent
   ·skip
    intro hlt
    refine Ex' (Ax (Ax (Bh (Aw (Sq (Rg ?_))))))
    refine rp 2 rfl ?_
    refine Sn (Aw (Rt ?_))
    refine at_ret1 rfl (rv_tmp rfl) ⟨_, ⟨rfl, rfl⟩, ?_⟩
    try dsimp only [ca, na]
    exact ent

/-- the order of seeds -/
def ordI (a b : Seed) : Int := orI [cmpI a.key b.key, cmpI a.cell b.cell, cmpI a.side b.side]
theorem seeds_order (a b : Seed) : Spec PP 77 #[.agg #[.int .i64 a.cell, .int .i64 a.side, .int .i64 a.key], .agg #[.int .i64 b.cell, .int .i64 b.side, .int .i64 b.key]] [] (fun v M => v = .int .i64 (ordI a b) ∧ M = []) := by
  refine spec_of (Go.Proofs.Tryz.func77) rfl rfl rfl (by exact fc_enters_77) ?_
  intro g F
  try dsimp only [ca, na]
  refine Sq (Rg ?_)
  refine Wx (xo_box rfl rfl) ?_
  rintro _ _ ⟨b2, rfl, rfl⟩
  refine Wx (xo_box rfl rfl) ?_
  rintro _ _ ⟨b3, rfl, rfl⟩
  refine rp 1 rfl ?_
  refine Sn (Aw (Sq ?_))
  refine r_ord [] _ [(0, 1), (1, 0), (2, 1), (3, 0), (5, 1), (6, 0), (7, 1), (8, 0), (10, 1), (11, 0), (12, 1), (13, 0), (4, 2), (9, 2), (14, 2), (15, 2), (16, 2), (17, 1)] fc_mixed (by kernel_rfl) (fun _ h => h) ?_
  refine Of rfl (po_faddr rfl (by exact fc_field_45_2_2)) ?_
  refine Or rfl (po_load rfl (by exact fc_flat_3) (by rfl)) ?_
  refine Of rfl (po_faddr rfl (by exact fc_field_45_2_2)) ?_
  refine Or rfl (po_load rfl (by exact fc_flat_3) (by rfl)) ?_
  refine Of rfl (po_faddr rfl (by exact fc_field_45_0_0)) ?_
  refine Or rfl (po_load rfl (by exact fc_flat_3) (by rfl)) ?_
  refine Of rfl (po_faddr rfl (by exact fc_field_45_0_0)) ?_
  refine Or rfl (po_load rfl (by exact fc_flat_3) (by rfl)) ?_
  refine Of rfl (po_faddr rfl (by exact fc_field_45_1_1)) ?_
  refine Or rfl (po_load rfl (by exact fc_flat_3) (by rfl)) ?_
  refine Of rfl (po_faddr rfl (by exact fc_field_45_1_1)) ?_
  refine Or rfl (po_load rfl (by exact fc_flat_3) (by rfl)) ?_
  refine o_st rfl (st_call (co_fn rfl rfl) (cmp_Compare a.key b.key) (by infer_instance) rfl rfl rfl ?_)
  rintro v9 _ ⟨rfl, rfl⟩
  try dsimp only [ca, na]
  refine ⟨fun _ => (by first | exact fun _ h => h | exact ent), ?_⟩
  refine o_st rfl (st_call (co_fn rfl rfl) (cmp_Compare a.cell b.cell) (by infer_instance) rfl rfl rfl ?_)
  rintro v14 _ ⟨rfl, rfl⟩
  try dsimp only [ca, na]
  refine ⟨fun _ => (by first | exact fun _ h => h | exact ent), ?_⟩
  refine o_st rfl (st_call (co_fn rfl rfl) (cmp_Compare a.side b.side) (by infer_instance) rfl rfl rfl ?_)
  rintro v19 _ ⟨rfl, rfl⟩
  try dsimp only [ca, na]
  refine ⟨fun _ => (by first | exact fun _ h => h | exact ent), ?_⟩
  refine o_st rfl (st_xo (xo_bslice eI [_, _, _] rfl (by exact fc_slice_35_3_1) (by exact fc_elem_3_1_8) ⟨rfl, rfl, ⟨rfl, rfl, ⟨rfl, rfl, trivial⟩⟩⟩ rfl (by decide)) rfl rfl rfl ?_)
  rintro v20 _ rfl
  refine ⟨fun _ => (by first | exact fun _ h => h | exact ent), ?_⟩
  refine o_st rfl (st_call (co_fn rfl rfl) (cmp_Or v20 [cmpI a.key b.key, cmpI a.cell b.cell, cmpI a.side b.side] (by simp)) (by infer_instance) rfl rfl rfl ?_)
  rintro v21 _ ⟨rfl, rfl⟩
  try dsimp only [ca, na]
  refine ⟨fun _ => (by first | exact fun _ h => h | exact ent), ?_⟩
  refine Of rfl (po_assign rfl) ?_
  refine o_nil ?_
  refine Aw (Rt ?_)
  refine at_ret1 rfl (rv_tmp rfl) ⟨_, ⟨rfl, rfl⟩, ?_⟩
  try dsimp only [ca, na]
  exact ent
end Hd
end
section
namespace Hd
set_option maxRecDepth 100000
open Go

/-- a sweeper: its struct and what hangs on it -/
structure SwS where
  b : Nat
  w : Int
  h : Int
  tc : Value
  C : List Int
  rb : Nat
  tv : Value
  dv : Value
abbrev SwS.l (s : SwS) (a l : Int) (B : List Bkt) (todo : List Seed) (d : List Int) : List HP :=
  [Blk s.b 119 [.int .i64 s.w, .int .i64 s.h, s.tc, ringP s.rb, s.tv, s.dv], Sl eB s.tc s.C, Sl eS s.tv todo, Sl eI s.dv d, ringB s.rb a l B, All (B.map slK)]
abbrev SwS.lf (s : SwS) (F : HP) (a l : Int) (B : List Bkt) (todo : List Seed) (d : List Int) : List HP :=
  [Blk s.b 119 [.int .i64 s.w, .int .i64 s.h, s.tc, ringP s.rb, s.tv, s.dv], Sl eB s.tc s.C, Sl eS s.tv todo, Sl eI s.dv d, ringB s.rb a l B, All (B.map slK), F]
abbrev SwS.p (s : SwS) : Value := .pointer (some ⟨s.b, 0, none⟩)

theorem sum_le {X : Type} (f : X → Nat) (t : Nat) : ∀ (B : List X), (∀ x ∈ B, f x ≤ t) → (B.map f).sum ≤ B.length * t
  | [], _ => by simp
  | z :: B, h => by
    have h1 := h z (by simp)
    have h2 := sum_le f t B (fun x hx => h x (by simp [hx]))
    simp only [List.map_cons, List.sum_cons, List.length_cons, Nat.succ_mul]; omega
theorem wt_cnt {B : List Bkt} {l tot : Int} (ok : RingOk B l tot) : l ≤ 256 * tot := by
  have := sum_le (fun x : Bkt => x.q.length) tot.toNat B (fun x hx => by
    have := ok.bk x hx
    unfold Bkt.q; rw [List.length_drop]; omega)
  rw [ok.len] at this
  have h0 : ∃ x, x ∈ B := ⟨_, List.getElem_mem (show 0 < B.length by rw [ok.len]; decide)⟩
  obtain ⟨x, hx⟩ := h0
  have := ok.bk x hx
  rw [ok.cnt]; omega
theorem exK_step {w h loc k m c : Int} (h1 : ¬ exK w h loc (k + 1) m c) : (m = loc ∧ stepN w h loc k = c) ∨ ¬ exK w h loc k m c := by
  by_cases e : m = loc ∧ stepN w h loc k = c
  · exact .inl e
  · refine .inr fun ⟨f1, s, f2, f3⟩ => ?_
    by_cases e2 : s = k
    · subst e2; exact e ⟨f1, f3⟩
    · exact h1 ⟨f1, s, by omega, f3⟩

theorem sweep_reach {sd : List Seed} {T a l : Int} {B : List Bkt} {todo : List Seed} {d : List Int} {tot rem : Int} {loc k : Int} (s : SwS) (hc : SwC s.w s.h s.C sd) (sw : Sw s.w s.h s.C sd T a l B todo d tot rem (exK s.w s.h loc k)) (hT : T ≤ 2^32)
    (hr : 1 ≤ rem) (hk : 0 ≤ k ∧ k < 4) (ho : Opn s.C loc) (hd : gAt d loc = a) (hm : 0 ≤ stepN s.w s.h loc k) :
    Spec PP 143 #[s.p, .int .i64 (stepN s.w s.h loc k), .int .i64 (a + gAt s.C loc)] (s.l a l B todo d)
      (fun v M => ∃ l' B' tot', v = .tuple #[] ∧ Sw s.w s.h s.C sd T a l' B' todo d tot' (rem - 1) (exK s.w s.h loc (k + 1)) ∧ l' ≤ l + 1 ∧ M = s.l a l' B' todo d) := by
  have hst := (step_ok (w := s.w) (h := s.h) (c := loc) ⟨hc.may, ho.1, by rw [← hc.len]; exact ho.2.1⟩ hk.1 (by omega)).2 hm
  generalize hme : stepN s.w s.h loc k = m at *
  have hml : m < s.C.length := by rw [hc.len]; exact hst.1.2.2
  have hdl := sw.dl
  have hcl := hc.cost ⟨ho.1, ho.2.1⟩
  have hkb := kb_le (d := d) (by rw [hdl]; exact hc.small)
  have ha := sw.a0
  have hri := sw.ring
  have htt := sw.tt
  have hI : INF = 1099511627776 := rfl
  have hlr : 0 ≤ l := by rw [hri.cnt]; omega
  obtain ⟨x, hx⟩ : ∃ x, B[((a + gAt s.C loc) % 256).toNat]? = some x := ⟨_, List.getElem?_eq_getElem (by rw [hri.len]; omega)⟩
  have hxb := hri.bk x (List.mem_of_getElem? hx)
  have hle := wt_cnt hri
  refine spec_of (Go.Proofs.Tryz.func143) rfl rfl rfl (by exact fc_enters_143) ?_
  intro g F
  try dsimp only [ca, na, SwS.l, SwS.lf]
  refine Sq (Rg ?_)
  refine rp 2 rfl ?_
  refine Wp (po_faddr rfl (by exact fc_field_119_0_0)) ?_
  refine Wp (po_faddr rfl (by exact fc_field_41_2_2)) ?_
  refine Wp (po_load rfl (by exact fc_flat_22) (by rfl)) ?_
  refine rp 1 rfl ?_
  refine Wp (po_iaddr rfl rfl (by exact fc_slice_22_5_1) (by first | omega | (simp <;> omega)) (by first | omega | (simp <;> omega))) ?_
  refine Wp (po_load_sl rfl (List.getElem?_eq_getElem (by first | omega | (simp <;> omega))) (by exact fc_flat_5) (by rfl)) ?_
  refine Wp (po_ne rfl rfl) ?_
  by_cases h1 : s.C[m.toNat]'(by omega) ≠ 255
  ·skip
   refine ws (st_po (po_bt (po_move rfl) (decide_eq_true h1)) rfl rfl rfl ?_)
   refine rp 2 rfl ?_
   refine Wp (po_faddr rfl (by exact fc_field_119_3_5)) ?_
   refine Wp (po_load rfl (by exact fc_flat_35) (by rfl)) ?_
   refine rp 1 rfl ?_
   refine Wp (po_iaddr rfl rfl (by exact fc_slice_35_3_1) (by first | omega | (simp <;> omega)) (by first | omega | (simp <;> omega))) ?_
   refine Wp (po_load_sl rfl (List.getElem?_eq_getElem (by first | omega | (simp <;> omega))) (by exact fc_flat_3) (by rfl)) ?_
   refine Wp (po_eq rfl rfl) ?_
   refine rp 1 rfl ?_
   refine Sn (Aw ?_)
   refine Rc rfl ?_ ?_
   ·skip
    intro h2
    refine Rg ?_
    refine rp 2 rfl ?_
    refine Wp (po_faddr rfl (by exact fc_field_119_1_3)) ?_
    refine Wp (po_load rfl (by exact fc_flat_115) (by rfl)) ?_
    refine rp 2 rfl ?_
    refine Wc (co_fn rfl rfl) (ring_Put s.rb a l B (a + gAt s.C loc) m x ha.1 (by omega) hri.len hx (by omega) (by omega)) ?_
    rintro v31 _ (⟨g1, g2, rfl, y, hy1, hy2, rfl⟩ | ⟨g1, rfl, rfl⟩)
    ·skip
     try dsimp only [ca, na, SwS.l, SwS.lf]
     refine Sn ?_
     refine at_end0 rfl ⟨_, ⟨l + 1, _, tot + 1, rfl, sw.put hc (m := loc) (c := m) hr ho hd ⟨⟨hst.1.2.1, hml, by rw [gAt_get (by omega)]; exact h1⟩, k, hk, hme⟩ (by rw [gAt_get (by omega)]; exact h2) hx hy1 hy2 (fun m' c' g => (exK_step g).elim (fun e => .inl ⟨e.1, by rw [← e.2, hme]⟩) .inr), by omega, rfl⟩, ?_⟩
     try dsimp only [ca, na, SwS.l, SwS.lf]
     exact ent
    ·skip
     try dsimp only [ca, na, SwS.l, SwS.lf]
     exact absurd ⟨by omega, by have := ho.2.2; omega⟩ g1
   ·skip
    intro h2
    refine Sk ?_
    refine at_end0 rfl ⟨_, ⟨l, B, tot, rfl, sw.skip (by omega) (by omega) (fun m' c' e1 e2 e3 g4 => (exK_step g4).elim (fun e => .inr (.inl (by
      have hmm : c' = m := by rw [← e.2, hme]
      have h3 := sw.dA m hst.1.2.1 hml
      rw [gAt_get (by omega)] at h3
      rcases h3 with h3 | h3
      · exact absurd h3 h2
      · rw [hmm, e.1, hd, gAt_get (by omega)]; omega))) .inl), by omega, rfl⟩, ?_⟩
    try dsimp only [ca, na, SwS.l, SwS.lf]
    exact ent
  ·skip
   refine ws (st_po (po_bf (po_move rfl) (decide_eq_false h1)) rfl rfl rfl ?_)
   refine rp 9 rfl ?_
   refine Sn (Aw ?_)
   refine r_cond_f rfl rfl ?_
   refine Sk ?_
   refine at_end0 rfl ⟨_, ⟨l, B, tot, rfl, sw.skip (by omega) (by omega) (fun m' c' _ _ g3 g4 => (exK_step g4).elim (fun e => absurd (by rw [← e.2, hme, gAt_get (by omega)]; exact Classical.not_not.1 h1) g3.1.2.2) .inl), by omega, rfl⟩, ?_⟩
   try dsimp only [ca, na, SwS.l, SwS.lf]
   exact ent
theorem sweep_reach2 {sd : List Seed} {T a l : Int} {B : List Bkt} {todo : List Seed} {d : List Int} {tot rem : Int} {loc k m key : Int} (s : SwS) (hc : SwC s.w s.h s.C sd) (sw : Sw s.w s.h s.C sd T a l B todo d tot rem (exK s.w s.h loc k)) (hT : T ≤ 2^32)
    (hr : 1 ≤ rem) (hk : 0 ≤ k ∧ k < 4) (ho : Opn s.C loc) (hd : gAt d loc = a) (hme : stepN s.w s.h loc k = m) (hm : 0 ≤ m) (hkey : key = a + gAt s.C loc) :
    Spec PP 143 #[s.p, .int .i64 m, .int .i64 key] (s.l a l B todo d)
      (fun v M => ∃ l' B' tot', v = .tuple #[] ∧ Sw s.w s.h s.C sd T a l' B' todo d tot' (rem - 1) (exK s.w s.h loc (k + 1)) ∧ l' ≤ l + 1 ∧ M = s.l a l' B' todo d) := by
  subst hme hkey
  exact sweep_reach s hc sw hT hr hk ho hd hm
theorem Sw.none {w h : Int} {C : List Int} {sd : List Seed} {T a l : Int} {B : List Bkt} {todo : List Seed} {d : List Int} {tot rem : Int} {loc k : Int} (s : Sw w h C sd T a l B todo d tot rem (exK w h loc k)) (hr : 1 ≤ rem) (hs : stepN w h loc k = -1) : Sw w h C sd T a l B todo d tot (rem - 1) (exK w h loc (k + 1)) :=
  s.skip (by omega) (by omega) fun m c _ _ e3 e4 => (exK_step e4).elim (fun e => absurd e3.1.1 (by rw [← e.2, hs]; decide)) .inl

theorem sweep_around {sd : List Seed} {T a l : Int} {B : List Bkt} {todo : List Seed} {d : List Int} {tot : Int} {loc : Int} (s : SwS) (hc : SwC s.w s.h s.C sd) (sw : Sw s.w s.h s.C sd T a l B todo d tot 4 (exK s.w s.h loc 0)) (hT : T ≤ 2^32)
    (ho : Opn s.C loc) (hd : gAt d loc = a) :
    Spec PP 113 #[s.p, .int .i64 loc] (s.l a l B todo d)
      (fun v M => ∃ l' B' tot', v = .tuple #[] ∧ Sw s.w s.h s.C sd T a l' B' todo d tot' 0 ex0 ∧ l' ≤ l + 4 ∧ M = s.l a l' B' todo d) := by
  have hic : IsC s.w s.h loc := ⟨hc.may, ho.1, by rw [← hc.len]; exact ho.2.1⟩
  obtain ⟨s0, s1, s2, s3⟩ := step_val hic
  have hdl := sw.dl
  have ho1 := ho.1
  have ho2 := ho.2.1
  have hm := hc.may
  have hsm := hc.small
  have hxy := isc_xy hic
  have hcl := hc.cost ⟨ho.1, ho.2.1⟩
  have hkb := kb_le (d := d) (by rw [hdl]; exact hc.small)
  have ha := sw.a0
  have hcg : gAt s.C loc = s.C[loc.toNat]'(by omega) := gAt_get (by omega)
  have hdg : gAt d loc = d[loc.toNat]'(by omega) := gAt_get (by omega)
  have hkey : d[loc.toNat]'(by omega) + s.C[loc.toNat]'(by omega) = a + gAt s.C loc := by omega
  have g3 := Int.mul_nonneg hxy.2.1.1 (show 0 ≤ s.w by omega)
  have g0 : 0 < loc / s.w → 0 ≤ loc - s.w := fun h => by
    have := mul_lt (a := loc % s.w) (b := loc / s.w - 1) (c := s.w) (d := s.h) (by omega) (by omega) (by omega) (by omega)
    rw [Int.sub_mul, Int.one_mul] at this; omega
  refine spec_of (Go.Proofs.Tryz.func113) rfl rfl rfl (by exact fc_enters_113) ?_
  intro g F
  try dsimp only [ca, na, SwS.l, SwS.lf]
  refine Sq ?_
  refine r_ord [] _ [(0, 1), (1, 1), (2, 1), (3, 0), (4, 1), (5, 0), (6, 0), (7, 1), (8, 1), (9, 1), (10, 1), (11, 0), (12, 1), (13, 0), (14, 0), (15, 1), (16, 1), (17, 1)] fc_mixed (by kernel_rfl) (fun _ h => h) ?_
  refine Of rfl (po_move rfl) ?_
  refine Of rfl (po_nil rfl) ?_
  refine Of rfl (po_faddr rfl (by exact fc_field_119_3_5)) ?_
  refine Or rfl (po_load rfl (by exact fc_flat_35) (by rfl)) ?_
  refine Of rfl (po_move rfl) ?_
  refine Or rfl (po_iaddr rfl rfl (by exact fc_slice_35_3_1) (by first | omega | (simp <;> omega)) (by first | omega | (simp <;> omega))) ?_
  refine Or rfl (po_load_sl rfl (List.getElem?_eq_getElem (by first | omega | (simp <;> omega))) (by exact fc_flat_3) (by rfl)) ?_
  refine Of rfl (po_move rfl) ?_
  refine Of rfl (po_nil rfl) ?_
  refine Of rfl (po_faddr rfl (by exact fc_field_119_0_0)) ?_
  refine Of rfl (po_faddr rfl (by exact fc_field_41_2_2)) ?_
  refine Or rfl (po_load rfl (by exact fc_flat_22) (by rfl)) ?_
  refine Of rfl (po_move rfl) ?_
  refine Or rfl (po_iaddr rfl rfl (by exact fc_slice_22_5_1) (by first | omega | (simp <;> omega)) (by first | omega | (simp <;> omega))) ?_
  refine Or rfl (po_load_sl rfl (List.getElem?_eq_getElem (by first | omega | (simp <;> omega))) (by exact fc_flat_5) (by rfl)) ?_
  refine Of rfl (po_conv_w rfl (by exact fc_int_5_u8) (by exact fc_int_3_i64) (wrap_i64 _ (by omega) (by omega))) ?_
  refine Of rfl (po_add' rfl rfl (by omega) (by omega)) ?_
  refine Of rfl (po_assign rfl) ?_
  refine o_nil ?_
  refine Aw (Sq ?_)
  refine r_ord [] _ [(0, 1), (1, 1), (2, 1), (3, 1), (4, 1), (5, 0), (6, 1), (7, 1), (8, 1), (9, 1), (10, 1), (11, 1), (12, 0), (13, 1), (14, 1), (15, 1)] fc_mixed (by kernel_rfl) (fun _ h => h) ?_
  refine Of rfl (po_move rfl) ?_
  refine Of rfl (po_move rfl) ?_
  refine Of rfl (po_nil rfl) ?_
  refine Of rfl (po_faddr rfl (by exact fc_field_119_0_0)) ?_
  refine Of rfl (po_faddr rfl (by exact fc_field_41_0_0)) ?_
  refine Or rfl (po_load rfl (by exact fc_flat_3) (by rfl)) ?_
  refine Of rfl (po_rem' rfl rfl (by omega) (by omega)) ?_
  refine Of rfl (po_move rfl) ?_
  refine Of rfl (po_move rfl) ?_
  refine Of rfl (po_nil rfl) ?_
  refine Of rfl (po_faddr rfl (by exact fc_field_119_0_0)) ?_
  refine Of rfl (po_faddr rfl (by exact fc_field_41_0_0)) ?_
  refine Or rfl (po_load rfl (by exact fc_flat_3) (by rfl)) ?_
  refine Of rfl (po_quo' rfl rfl (by omega) (by omega) (by omega)) ?_
  refine Of rfl (po_assign rfl) ?_
  refine Of rfl (po_assign rfl) ?_
  refine o_nil ?_
  refine Aw ?_
  refine r_joink (S := Int × List Bkt × Int) (fun ⟨l1, B1, t1⟩ => []) [(0, _), (1, _), (4, _), (5, _), (6, _)] (fun ⟨l1, B1, t1⟩ => s.lf F a l1 B1 todo d) (fun ⟨l1, B1, t1⟩ => Sw s.w s.h s.C sd T a l1 B1 todo d t1 (4 - 1) (exK s.w s.h loc (0 + 1)) ∧ l1 ≤ l + 1) (And.intro rfl (And.intro rfl (And.intro rfl (And.intro rfl (And.intro rfl (trivial)))))) ?_ ?_
  ·skip
   refine Sq (Rg ?_)
   refine rp 1 rfl ?_
   refine Wp (po_gt rfl rfl) ?_
   refine Sn (Aw ?_)
   refine Rc rfl ?_ ?_
   ·skip
    intro h0
    refine Rg ?_
    refine rp 4 rfl ?_
    refine Wp (po_faddr rfl (by exact fc_field_119_0_0)) ?_
    refine Wp (po_faddr rfl (by exact fc_field_41_0_0)) ?_
    refine Wp (po_load rfl (by exact fc_flat_3) (by rfl)) ?_
    refine Wp (po_sub' rfl rfl (by omega) (by omega)) ?_
    refine rp 1 rfl ?_
    refine Wc (co_fn rfl rfl) (sweep_reach2 s hc sw hT (by omega) (by omega) ho hd (s0.trans (if_pos h0)) (g0 h0) hkey) ?_
    rintro v49 _ ⟨l1, B1, t1, rfl, w1, hl1, rfl⟩
    try dsimp only [ca, na, SwS.l, SwS.lf]
    refine Sn ?_
    exact at_join ((l1, B1, t1)) (trivial) (And.intro rfl (And.intro rfl (And.intro rfl (And.intro rfl (And.intro rfl (trivial)))))) (⟨w1, hl1⟩) ent
   ·skip
    intro h0
    refine Sk ?_
    exact at_join ((l, B, tot)) (trivial) (And.intro rfl (And.intro rfl (And.intro rfl (And.intro rfl (And.intro rfl (trivial)))))) (⟨sw.none (by omega) (s0.trans (if_neg h0)), by omega⟩) ent
  ·skip
   rintro ⟨l1, B1, t1⟩ ⟨w1, hl1⟩
   try dsimp only [ca, na, SwS.l, SwS.lf]
   refine r_joink (S := Int × List Bkt × Int) (fun ⟨l2, B2, t2⟩ => []) [(0, _), (1, _), (4, _), (5, _), (6, _)] (fun ⟨l2, B2, t2⟩ => s.lf F a l2 B2 todo d) (fun ⟨l2, B2, t2⟩ => Sw s.w s.h s.C sd T a l2 B2 todo d t2 (4 - 1 - 1) (exK s.w s.h loc (0 + 1 + 1)) ∧ l2 ≤ l + 2) (And.intro rfl (And.intro rfl (And.intro rfl (And.intro rfl (And.intro rfl (trivial)))))) ?_ ?_
   ·skip
    refine Sq (Rg ?_)
    refine rp 3 rfl ?_
    refine Wp (po_faddr rfl (by exact fc_field_119_0_0)) ?_
    refine Wp (po_faddr rfl (by exact fc_field_41_0_0)) ?_
    refine Wp (po_load rfl (by exact fc_flat_3) (by rfl)) ?_
    refine Wp (po_sub' rfl rfl (by omega) (by omega)) ?_
    refine Wp (po_lt rfl rfl) ?_
    refine Sn (Aw ?_)
    refine Rc rfl ?_ ?_
    ·skip
     intro h1
     refine Rg ?_
     refine rp 2 rfl ?_
     refine Wp (po_add' rfl rfl (by omega) (by omega)) ?_
     refine rp 1 rfl ?_
     refine Wc (co_fn rfl rfl) (sweep_reach2 s hc w1 hT (by omega) (by omega) ho hd (s1.trans (if_pos h1)) (by omega) hkey) ?_
     rintro v62 _ ⟨l2, B2, t2, rfl, w2, hl2, rfl⟩
     try dsimp only [ca, na, SwS.l, SwS.lf]
     refine Sn ?_
     exact at_join ((l2, B2, t2)) (trivial) (And.intro rfl (And.intro rfl (And.intro rfl (And.intro rfl (And.intro rfl (trivial)))))) (⟨w2, by omega⟩) ent
    ·skip
     intro h1
     refine Sk ?_
     exact at_join ((l1, B1, t1)) (trivial) (And.intro rfl (And.intro rfl (And.intro rfl (And.intro rfl (And.intro rfl (trivial)))))) (⟨w1.none (by omega) (s1.trans (if_neg h1)), by omega⟩) ent
   ·skip
    rintro ⟨l2, B2, t2⟩ ⟨w2, hl2⟩
    try dsimp only [ca, na, SwS.l, SwS.lf]
    refine r_joink (S := Int × List Bkt × Int) (fun ⟨l3, B3, t3⟩ => []) [(0, _), (1, _), (4, _), (5, _)] (fun ⟨l3, B3, t3⟩ => s.lf F a l3 B3 todo d) (fun ⟨l3, B3, t3⟩ => Sw s.w s.h s.C sd T a l3 B3 todo d t3 (4 - 1 - 1 - 1) (exK s.w s.h loc (0 + 1 + 1 + 1)) ∧ l3 ≤ l + 3) (And.intro rfl (And.intro rfl (And.intro rfl (And.intro rfl (trivial))))) ?_ ?_
    ·skip
     refine Sq (Rg ?_)
     refine rp 3 rfl ?_
     refine Wp (po_faddr rfl (by exact fc_field_119_0_0)) ?_
     refine Wp (po_faddr rfl (by exact fc_field_41_1_1)) ?_
     refine Wp (po_load rfl (by exact fc_flat_3) (by rfl)) ?_
     refine Wp (po_sub' rfl rfl (by omega) (by omega)) ?_
     refine Wp (po_lt rfl rfl) ?_
     refine Sn (Aw ?_)
     refine Rc rfl ?_ ?_
     ·skip
      intro h2
      refine Rg ?_
      refine rp 4 rfl ?_
      refine Wp (po_faddr rfl (by exact fc_field_119_0_0)) ?_
      refine Wp (po_faddr rfl (by exact fc_field_41_0_0)) ?_
      refine Wp (po_load rfl (by exact fc_flat_3) (by rfl)) ?_
      refine Wp (po_add' rfl rfl (by omega) (by omega)) ?_
      refine rp 1 rfl ?_
      refine Wc (co_fn rfl rfl) (sweep_reach2 s hc w2 hT (by omega) (by omega) ho hd (s2.trans (if_pos h2)) (by omega) hkey) ?_
      rintro v80 _ ⟨l3, B3, t3, rfl, w3, hl3, rfl⟩
      try dsimp only [ca, na, SwS.l, SwS.lf]
      refine Sn ?_
      exact at_join ((l3, B3, t3)) (trivial) (And.intro rfl (And.intro rfl (And.intro rfl (And.intro rfl (trivial))))) (⟨w3, by omega⟩) ent
     ·skip
      intro h2
      refine Sk ?_
      exact at_join ((l2, B2, t2)) (trivial) (And.intro rfl (And.intro rfl (And.intro rfl (And.intro rfl (trivial))))) (⟨w2.none (by omega) (s2.trans (if_neg h2)), by omega⟩) ent
    ·skip
     rintro ⟨l3, B3, t3⟩ ⟨w3, hl3⟩
     try dsimp only [ca, na, SwS.l, SwS.lf]
     refine Sq (Rg ?_)
     refine rp 1 rfl ?_
     refine Wp (po_gt rfl rfl) ?_
     refine Sn (Aw ?_)
     refine Rc rfl ?_ ?_
     ·skip
      intro h3
      refine Rg ?_
      refine rp 2 rfl ?_
      refine Wp (po_sub' rfl rfl (by omega) (by omega)) ?_
      refine rp 1 rfl ?_
      refine Wc (co_fn rfl rfl) (sweep_reach2 s hc w3 hT (by omega) (by omega) ho hd (s3.trans (if_pos h3)) (by omega) hkey) ?_
      rintro v87 _ ⟨l4, B4, t4, rfl, w4, hl4, rfl⟩
      try dsimp only [ca, na, SwS.l, SwS.lf]
      refine Sn ?_
      refine at_end0 rfl ⟨_, ⟨l4, B4, t4, rfl, w4.skip (by omega) (by omega) (fun _ _ _ _ _ _ => .inl (fun e => by obtain ⟨_, z, e1, _⟩ := e; omega)), by omega, rfl⟩, ?_⟩
      try dsimp only [ca, na, SwS.l, SwS.lf]
      exact ent
     ·skip
      intro h3
      refine Sk ?_
      refine at_end0 rfl ⟨_, ⟨l3, B3, t3, rfl, (w3.none (by omega) (s3.trans (if_neg h3))).skip (by omega) (by omega) (fun _ _ _ _ _ _ => .inl (fun e => by obtain ⟨_, z, e1, _⟩ := e; omega)), by omega, rfl⟩, ?_⟩
      try dsimp only [ca, na, SwS.l, SwS.lf]
      exact ent

theorem sweep_fill {sd : List Seed} {T a l : Int} {B : List Bkt} {todo : List Seed} {d : List Int} {tot : Int} (s : SwS) (hc : SwC s.w s.h s.C sd) (sw : Sw s.w s.h s.C sd T a l B todo d tot 0 ex0) (hT : T ≤ 2^32) :
    Spec PP 110 #[s.p] (s.l a l B todo d)
      (fun v M => ∃ a' l' B' tot' todo' tv', v = .tuple #[] ∧ Sw s.w s.h s.C sd T a' l' B' todo' d tot' 0 ex0 ∧ l' + todo'.length = l + todo.length ∧ (todo' = [] ∨ (1 ≤ l' ∧ ∀ z ∈ todo', a' + 256 ≤ z.key)) ∧ M = ({ s with tv := tv' } : SwS).l a' l' B' todo' d) := by
  have hkb := kb_le (d := d) (by rw [sw.dl]; exact hc.small)
  have hlr : 0 ≤ l := by rw [sw.ring.cnt]; omega
  refine spec_of (Go.Proofs.Tryz.func110) rfl rfl rfl (by exact fc_enters_110) ?_
  intro g F
  try dsimp only [ca, na, SwS.l, SwS.lf]
  rcases todo with _ | ⟨s0, rest⟩
  ·skip
   refine Sq (Sq (Rg ?_))
   refine rp 2 rfl ?_
   refine Wp (po_faddr rfl (by exact fc_field_119_2_4)) ?_
   refine Wp (po_load rfl (by exact fc_flat_32) (by rfl)) ?_
   refine Wp (po_len rfl (by exact fc_slice_32_45_3)) ?_
   refine Wp (po_gt rfl rfl) ?_
   refine Wp (po_bf (po_move rfl) (decide_eq_false (by simp))) ?_
   refine rp 7 rfl ?_
   refine Sn (Aw ?_)
   refine r_cond_f rfl rfl ?_
   refine Sk (Aw (Bk ?_))
   refine r_loop (S := Unit) (fun ⟨⟩ => []) [(0, _)] (fun ⟨⟩ => s.lf F a l B [] d) (fun ⟨⟩ => True) (fun ⟨⟩ => 0) (()) (And.intro rfl (trivial)) (trivial) (trivial) ent ?_
   rintro ⟨⟩ -
   try dsimp only [ca, na, SwS.l, SwS.lf]
   refine Sq (Sq ?_)
   refine r_ord [25] _ [(0, 1), (1, 1), (2, 1), (3, 0), (4, 0), (5, 1), (6, 1), (7, 1), (8, 1), (9, 1), (10, 0), (11, 1), (12, 1), (13, 1), (14, 0), (15, 0), (16, 0), (17, 0), (18, 1), (19, 1), (20, 1), (21, 0), (22, 0), (23, 0), (24, 0), (25, 2), (26, 1)] fc_mixed (by kernel_rfl) (fun _ h => h) ?_
   refine Of rfl (po_move rfl) ?_
   refine Of rfl (po_nil rfl) ?_
   refine Of rfl (po_faddr rfl (by exact fc_field_119_2_4)) ?_
   refine Or rfl (po_load rfl (by exact fc_flat_32) (by rfl)) ?_
   refine Or rfl (po_len rfl (by exact fc_slice_32_45_3)) ?_
   refine Of rfl (po_gt rfl rfl) ?_
   refine Of rfl (po_bf (po_move rfl) (decide_eq_false (by simp))) ?_
   refine o_no rfl rfl rfl rfl ?_
   refine o_no rfl rfl rfl rfl ?_
   refine o_no rfl rfl rfl rfl ?_
   refine o_nor rfl (by first | exact fun _ h => h | exact ent) rfl rfl rfl ?_
   refine o_no rfl rfl rfl rfl ?_
   refine o_no rfl rfl rfl rfl ?_
   refine o_no rfl rfl rfl rfl ?_
   refine o_nor rfl (by first | exact fun _ h => h | exact ent) rfl rfl rfl ?_
   refine o_nor rfl (by first | exact fun _ h => h | exact ent) rfl rfl rfl ?_
   refine o_nor rfl (by first | exact fun _ h => h | exact ent) rfl rfl rfl ?_
   refine o_nor rfl (by first | exact fun _ h => h | exact ent) rfl rfl rfl ?_
   refine o_no rfl rfl rfl rfl ?_
   refine o_no rfl rfl rfl rfl ?_
   refine o_no rfl rfl rfl rfl ?_
   refine o_nor rfl (by first | exact fun _ h => h | exact ent) rfl rfl rfl ?_
   refine o_nor rfl (by first | exact fun _ h => h | exact ent) rfl rfl rfl ?_
   refine o_nor rfl (by first | exact fun _ h => h | exact ent) rfl rfl rfl ?_
   refine o_nor rfl (by first | exact fun _ h => h | exact ent) rfl rfl rfl ?_
   refine o_st rfl (st_no rfl rfl rfl ?_)
   refine ⟨fun h => late_no h (by kernel_rfl), ?_⟩
   refine Of rfl (po_pick_f rfl rfl) ?_
   refine o_nil ?_
   refine Aw ?_
   refine r_cond_f rfl rfl ?_
   refine Ex' (Ax (Ax (Bh ?_)))
   refine at_end0 rfl ⟨_, ⟨a, l, B, tot, [], s.tv, rfl, sw, rfl, .inl rfl, rfl⟩, ?_⟩
   try dsimp only [ca, na, SwS.l, SwS.lf]
   exact ent
  ·skip
   refine r_joink (S := Int) (fun a1 => []) [(0, _)] (fun a1 => s.lf F a1 l B (s0 :: rest) d) (fun a1 => Sw s.w s.h s.C sd T a1 l B (s0 :: rest) d tot 0 ex0 ∧ (l = 0 → s0.key = a1)) (And.intro rfl (trivial)) ?_ ?_
   ·skip
    refine Sq (Rg ?_)
    refine rp 2 rfl ?_
    refine Wp (po_faddr rfl (by exact fc_field_119_2_4)) ?_
    refine Wp (po_load rfl (by exact fc_flat_32) (by rfl)) ?_
    refine Wp (po_len rfl (by exact fc_slice_32_45_3)) ?_
    refine Wp (po_gt rfl rfl) ?_
    refine Wp (po_bt (po_move rfl) (decide_eq_true (by simp))) ?_
    refine rp 2 rfl ?_
    refine Wp (po_faddr rfl (by exact fc_field_119_1_3)) ?_
    refine Wp (po_load rfl (by exact fc_flat_115) (by rfl)) ?_
    refine Wc (co_fn rfl rfl) (ring_Len s.rb a l B) ?_
    rintro v13 _ ⟨rfl, rfl⟩
    try dsimp only [ca, na, SwS.l, SwS.lf]
    refine Wp (po_eq rfl rfl) ?_
    refine rp 1 rfl ?_
    refine Sn (Aw ?_)
    refine Rc rfl ?_ ?_
    ·skip
     intro hl0
     subst hl0
     have hsl : 0 < (s0 :: rest).length := by simp
     have hs0 := sw.td.1 s0 (by simp)
     have hs1 := hc.sdo s0 hs0.1
     refine r_ord [11] _ [(0, 1), (1, 1), (2, 1), (3, 0), (4, 1), (5, 1), (6, 1), (7, 0), (8, 0), (9, 0), (10, 0), (11, 2)] fc_mixed (by kernel_rfl) (fun _ h => h) ?_
     refine Of rfl (po_move rfl) ?_
     refine Of rfl (po_nil rfl) ?_
     refine Of rfl (po_faddr rfl (by exact fc_field_119_1_3)) ?_
     refine Or rfl (po_load rfl (by exact fc_flat_115) (by rfl)) ?_
     refine Of rfl (po_move rfl) ?_
     refine Of rfl (po_nil rfl) ?_
     refine Of rfl (po_faddr rfl (by exact fc_field_119_2_4)) ?_
     refine Or rfl (po_load rfl (by exact fc_flat_32) (by rfl)) ?_
     refine Or rfl (po_iaddr rfl rfl (by exact fc_slice_32_45_3) (by first | omega | (simp <;> omega)) (by first | omega | (simp <;> omega))) ?_
     refine Or rfl (po_faddr_sl rfl (by omega) (by exact fc_field_45_2_2)) ?_
     refine Or rfl (po_load_sl rfl (List.getElem?_eq_getElem (by first | omega | (simp <;> omega))) (by exact fc_flat_3) (by rfl)) ?_
     refine o_st rfl (st_call (co_fn rfl rfl) (ring_Jump s.rb a 0 B s0.key) (by infer_instance) rfl rfl rfl ?_)
     rintro v27 _ ⟨rfl, rfl⟩
     try dsimp only [ca, na, SwS.l, SwS.lf]
     refine ⟨fun h => late_no h (by kernel_rfl), ?_⟩
     refine o_nil ?_
     rw [if_pos (show (0 : Int) ≤ 0 ∧ a ≤ s0.key ∧ s0.key ≤ 1099511627776 by omega)]
     exact at_join (s0.key) (trivial) (And.intro rfl (trivial)) (⟨sw.jump hc, fun _ => rfl⟩) ent
    ·skip
     intro hl0
     refine Sk ?_
     exact at_join (a) (trivial) (And.intro rfl (trivial)) (⟨sw, fun e => absurd e hl0⟩) ent
   ·skip
    rintro a1 ⟨w1, hl1⟩
    try dsimp only [ca, na, SwS.l, SwS.lf]
    refine Bk ?_
    refine r_loop (S := Int × List Bkt × Int × List Seed × Value) (fun ⟨l2, B2, t2, td, tv⟩ => []) [(0, _)] (fun ⟨l2, B2, t2, td, tv⟩ => ({ s with tv := tv } : SwS).lf F a1 l2 B2 td d) (fun ⟨l2, B2, t2, td, tv⟩ => Sw s.w s.h s.C sd T a1 l2 B2 td d t2 0 ex0 ∧ l2 + td.length = l + (s0 :: rest).length ∧ (l2 = 0 → ∀ z zs, td = z :: zs → z.key = a1) ∧ 0 ≤ l2) (fun ⟨l2, B2, t2, td, tv⟩ => td.length) ((l, B, tot, s0 :: rest, s.tv)) (And.intro rfl (trivial)) (trivial) (⟨w1, rfl, fun e z zs e2 => by cases e2; exact hl1 e, hlr⟩) ent ?_
    rintro ⟨l2, B2, t2, td, tv⟩ ⟨w2, hl2, hk2, hl3⟩
    try dsimp only [ca, na, SwS.l, SwS.lf]
    rcases td with _ | ⟨z, zs⟩
    ·skip
     refine Sq (Sq ?_)
     refine r_ord [25] _ [(0, 1), (1, 1), (2, 1), (3, 0), (4, 0), (5, 1), (6, 1), (7, 1), (8, 1), (9, 1), (10, 0), (11, 1), (12, 1), (13, 1), (14, 0), (15, 0), (16, 0), (17, 0), (18, 1), (19, 1), (20, 1), (21, 0), (22, 0), (23, 0), (24, 0), (25, 2), (26, 1)] fc_mixed (by kernel_rfl) (fun _ h => h) ?_
     refine Of rfl (po_move rfl) ?_
     refine Of rfl (po_nil rfl) ?_
     refine Of rfl (po_faddr rfl (by exact fc_field_119_2_4)) ?_
     refine Or rfl (po_load rfl (by exact fc_flat_32) (by rfl)) ?_
     refine Or rfl (po_len rfl (by exact fc_slice_32_45_3)) ?_
     refine Of rfl (po_gt rfl rfl) ?_
     refine Of rfl (po_bf (po_move rfl) (decide_eq_false (by simp))) ?_
     refine o_no rfl rfl rfl rfl ?_
     refine o_no rfl rfl rfl rfl ?_
     refine o_no rfl rfl rfl rfl ?_
     refine o_nor rfl (by first | exact fun _ h => h | exact ent) rfl rfl rfl ?_
     refine o_no rfl rfl rfl rfl ?_
     refine o_no rfl rfl rfl rfl ?_
     refine o_no rfl rfl rfl rfl ?_
     refine o_nor rfl (by first | exact fun _ h => h | exact ent) rfl rfl rfl ?_
     refine o_nor rfl (by first | exact fun _ h => h | exact ent) rfl rfl rfl ?_
     refine o_nor rfl (by first | exact fun _ h => h | exact ent) rfl rfl rfl ?_
     refine o_nor rfl (by first | exact fun _ h => h | exact ent) rfl rfl rfl ?_
     refine o_no rfl rfl rfl rfl ?_
     refine o_no rfl rfl rfl rfl ?_
     refine o_no rfl rfl rfl rfl ?_
     refine o_nor rfl (by first | exact fun _ h => h | exact ent) rfl rfl rfl ?_
     refine o_nor rfl (by first | exact fun _ h => h | exact ent) rfl rfl rfl ?_
     refine o_nor rfl (by first | exact fun _ h => h | exact ent) rfl rfl rfl ?_
     refine o_nor rfl (by first | exact fun _ h => h | exact ent) rfl rfl rfl ?_
     refine o_st rfl (st_no rfl rfl rfl ?_)
     refine ⟨fun h => late_no h (by kernel_rfl), ?_⟩
     refine Of rfl (po_pick_f rfl rfl) ?_
     refine o_nil ?_
     refine Aw ?_
     refine r_cond_f rfl rfl ?_
     refine Ex' (Ax (Ax (Bh ?_)))
     refine at_end0 rfl ⟨_, ⟨a1, l2, B2, t2, [], tv, rfl, w2, hl2, .inl rfl, rfl⟩, ?_⟩
     try dsimp only [ca, na, SwS.l, SwS.lf]
     exact ent
    ·skip
     have hzl : 0 < (z :: zs).length := by simp
     have hz0 := w2.td.1 z (by simp)
     have hz1 := hc.sdo z hz0.1
     have ha2 := w2.a0
     have ht2 := w2.tt
     have hr2 := w2.ring
     have hw2 := wt_cnt hr2
     obtain ⟨x, hx⟩ : ∃ x, B2[(z.key % 256).toNat]? = some x := ⟨_, List.getElem?_eq_getElem (by rw [hr2.len]; omega)⟩
     have hxb := hr2.bk x (List.mem_of_getElem? hx)
     refine Sq (Sq ?_)
     refine r_ord [25] _ [(0, 1), (1, 1), (2, 1), (3, 0), (4, 0), (5, 1), (6, 1), (7, 1), (8, 1), (9, 1), (10, 0), (11, 1), (12, 1), (13, 1), (14, 0), (15, 0), (16, 0), (17, 0), (18, 1), (19, 1), (20, 1), (21, 0), (22, 0), (23, 0), (24, 0), (25, 2), (26, 1)] fc_mixed (by kernel_rfl) (fun _ h => h) ?_
     refine Of rfl (po_move rfl) ?_
     refine Of rfl (po_nil rfl) ?_
     refine Of rfl (po_faddr rfl (by exact fc_field_119_2_4)) ?_
     refine Or rfl (po_load rfl (by exact fc_flat_32) (by rfl)) ?_
     refine Or rfl (po_len rfl (by exact fc_slice_32_45_3)) ?_
     refine Of rfl (po_gt rfl rfl) ?_
     refine Of rfl (po_bt (po_move rfl) (decide_eq_true (by simp))) ?_
     refine Of rfl (po_move rfl) ?_
     refine Of rfl (po_nil rfl) ?_
     refine Of rfl (po_faddr rfl (by exact fc_field_119_1_3)) ?_
     refine Or rfl (po_load rfl (by exact fc_flat_115) (by rfl)) ?_
     refine Of rfl (po_move rfl) ?_
     refine Of rfl (po_nil rfl) ?_
     refine Of rfl (po_faddr rfl (by exact fc_field_119_2_4)) ?_
     refine Or rfl (po_load rfl (by exact fc_flat_32) (by rfl)) ?_
     refine Or rfl (po_iaddr rfl rfl (by exact fc_slice_32_45_3) (by first | omega | (simp <;> omega)) (by first | omega | (simp <;> omega))) ?_
     refine Or rfl (po_faddr_sl rfl (by omega) (by exact fc_field_45_2_2)) ?_
     refine Or rfl (po_load_sl rfl (List.getElem?_eq_getElem (by first | omega | (simp <;> omega))) (by exact fc_flat_3) (by rfl)) ?_
     refine Of rfl (po_move rfl) ?_
     refine Of rfl (po_nil rfl) ?_
     refine Of rfl (po_faddr rfl (by exact fc_field_119_2_4)) ?_
     refine Or rfl (po_load rfl (by exact fc_flat_32) (by rfl)) ?_
     refine Or rfl (po_iaddr rfl rfl (by exact fc_slice_32_45_3) (by first | omega | (simp <;> omega)) (by first | omega | (simp <;> omega))) ?_
     refine Or rfl (po_faddr_sl rfl (by omega) (by exact fc_field_45_0_0)) ?_
     refine Or rfl (po_load_sl rfl (List.getElem?_eq_getElem (by first | omega | (simp <;> omega))) (by exact fc_flat_3) (by rfl)) ?_
     refine o_st rfl (st_call (co_fn rfl rfl) (ring_Put s.rb a1 l2 B2 z.key z.cell x ha2.1 (by omega) hr2.len hx (by omega) (by omega)) (by infer_instance) rfl rfl rfl ?_)
     rintro v53 _ (⟨g1, g2, rfl, y, hy1, hy2, rfl⟩ | ⟨g1, rfl, rfl⟩)
     ·skip
      try dsimp only [ca, na, SwS.l, SwS.lf]
      refine ⟨fun h => late_no h (by kernel_rfl), ?_⟩
      refine Of rfl (po_pick_t rfl rfl) ?_
      refine o_nil ?_
      refine Aw ?_
      refine r_cond_t rfl (rfl) ?_
      refine Sk (Aw (Bk (Rg ?_)))
      refine rp 3 rfl ?_
      refine Wp (po_faddr rfl (by exact fc_field_119_2_4)) ?_
      refine Wp (po_load rfl (by exact fc_flat_32) (by rfl)) ?_
      refine Wp (po_slice_l rfl rfl (by exact fc_slice_32_45_3) (by first | omega | (simp <;> omega)) (by first | omega | (simp <;> omega))) ?_
      refine rp 1 rfl ?_
      refine Wp (po_faddr rfl (by exact fc_field_119_2_4)) ?_
      refine Ws (so_store1 rfl rfl (by exact fc_flat_32) rfl) ?_
      refine Sn (Bn ?_)
      refine at_ent (ent_sub (E := eS) (s := tv) (xs := z :: zs) (1 : Int).toNat (z :: zs).length (by simp) (by simp)) ?_
      simp only [List.take_length, show (1 : Int).toNat = 1 from rfl, List.drop_succ_cons, List.drop_zero]
      exact at_again ((l2 + 1, _, t2 + 1, zs, subv eS.k 1 (z :: zs).length tv)) (trivial) (And.intro rfl (trivial)) (⟨w2.feed hc ⟨g1, g2⟩ hx hy1 hy2, by simp at hl2 ⊢; omega, fun e => by omega, by omega⟩) (by simp) ent
     ·skip
      try dsimp only [ca, na, SwS.l, SwS.lf]
      refine ⟨fun h => late_no h (by kernel_rfl), ?_⟩
      refine Of rfl (po_pick_t rfl rfl) ?_
      refine o_nil ?_
      refine Aw ?_
      refine r_cond_f rfl (rfl) ?_
      refine Ex' (Ax (Ax (Bh ?_)))
      refine at_end0 rfl ⟨_, ⟨a1, l2, B2, t2, z :: zs, tv, rfl, w2, hl2, .inr ⟨by by_cases e : 0 < l2; omega; exact absurd ⟨hz0.2, by have := hk2 (by omega) z zs rfl; omega⟩ g1, fun z' hz' => by have hp := List.pairwise_cons.1 w2.td.2; rcases List.mem_cons.1 hz' with e | e; (subst e; omega); have := hp.1 z' e; omega⟩, rfl⟩, ?_⟩
      try dsimp only [ca, na, SwS.l, SwS.lf]
      exact ent

theorem sweep_run {sd : List Seed} {T a l : Int} {B : List Bkt} {todo : List Seed} {d : List Int} {tot : Int} (s : SwS) (hc : SwC s.w s.h s.C sd) (sw : Sw s.w s.h s.C sd T a l B todo d tot 0 ex0) (hT : T ≤ 2^32) :
    Spec PP 85 #[s.p] (s.l a l B todo d)
      (fun v M => ∃ a' B' d' tot' tv', v = .tuple #[] ∧ Sw s.w s.h s.C sd T a' 0 B' [] d' tot' 0 ex0 ∧ M = ({ s with tv := tv' } : SwS).l a' 0 B' [] d') := by
  have hI : INF = 1099511627776 := rfl
  refine spec_of (Go.Proofs.Tryz.func85) rfl rfl rfl (by exact fc_enters_85) ?_
  intro g F
  try dsimp only [ca, na, SwS.l, SwS.lf]
  refine Sq (Rg ?_)
  refine rp 1 rfl ?_
  refine Wc (co_fn rfl rfl) (sweep_fill s hc sw hT) ?_
  rintro v6 _ ⟨a0, l0, B0, tot0, todo0, tv0, rfl, w0, hl0, hz0, rfl⟩
  try dsimp only [ca, na, SwS.l, SwS.lf]
  refine Sn (Aw (Bk ?_))
  refine r_loop (S := Int × Int × List Bkt × Int × List Seed × Value × List Int) (fun ⟨a1, l1, B1, t1, td, tv, d1⟩ => []) [(0, _)] (fun ⟨a1, l1, B1, t1, td, tv, d1⟩ => ({ s with tv := tv } : SwS).lf F a1 l1 B1 td d1) (fun ⟨a1, l1, B1, t1, td, tv, d1⟩ => Sw s.w s.h s.C sd T a1 l1 B1 td d1 t1 0 ex0 ∧ (td = [] ∨ (1 ≤ l1 ∧ ∀ z ∈ td, a1 + 256 ≤ z.key))) (fun ⟨a1, l1, B1, t1, td, tv, d1⟩ => (l1 + td.length + 4 * uns d1).toNat) ((a0, l0, B0, tot0, todo0, tv0, d)) (And.intro rfl (trivial)) (trivial) (⟨w0, hz0⟩) ent ?_
  rintro ⟨a1, l1, B1, t1, td, tv, d1⟩ ⟨w1, hz1⟩
  try dsimp only [ca, na, SwS.l, SwS.lf]
  have hr1 := w1.ring
  have hlr : 0 ≤ l1 := by rw [hr1.cnt]; omega
  have ha1 := w1.a0
  have ht1 := w1.tt
  have hw1 := wt_cnt hr1
  have hkb := kb_le (d := d1) (by rw [w1.dl]; exact hc.small)
  refine Sq (Sq (Rg ?_))
  refine rp 2 rfl ?_
  refine Wp (po_faddr rfl (by exact fc_field_119_1_3)) ?_
  refine Wp (po_load rfl (by exact fc_flat_115) (by rfl)) ?_
  refine Wc (co_fn rfl rfl) (ring_Len s.rb a1 l1 B1) ?_
  rintro v11 _ ⟨rfl, rfl⟩
  try dsimp only [ca, na, SwS.l, SwS.lf]
  refine Wp (po_gt rfl rfl) ?_
  refine Sn (Aw ?_)
  refine Rc rfl ?_ ?_
  ·skip
   intro hl1
   obtain ⟨k, hk, hf⟩ := first_ex hr1 hl1 ha1.1
   have hbk : ∀ x ∈ B1, x.xs.length ≤ 2^40 ∧ 0 ≤ x.gone ∧ x.gone ≤ x.xs.length := fun x hx => by have := hr1.bk x hx; omega
   refine Sk (Aw (Sq (Bk (Sq (Rg ?_)))))
   refine rp 2 rfl ?_
   refine Wp (po_faddr rfl (by exact fc_field_119_1_3)) ?_
   refine Wp (po_load rfl (by exact fc_flat_115) (by rfl)) ?_
   refine Wc (co_fn rfl rfl) (ring_Pop s.rb a1 l1 B1 k ha1.1 (by omega) hr1.len hbk (by omega) hf) ?_
   rintro v20 _ ⟨x, y, it, rfl, hx, hq, hyl, hyg, rfl⟩
   try dsimp only [ca, na, SwS.l, SwS.lf]
   have hp := (pop_ok hr1 hf hk hx hq hyl hyg).2.2.2
   have hw := w1.wB k it hp
   have hdl := w1.dl
   have hit0 := hw.1.1
   have hit1 := hw.1.2.1
   have hz2 : ∀ z ∈ td, a1 + 256 ≤ z.key := fun z hz => hz1.elim (fun e => by rw [e] at hz; cases hz) (fun e => e.2 z hz)
   have hdg : gAt d1 it = d1[it.toNat]'(by omega) := gAt_get (by omega)
   refine rp 7 rfl ?_
   refine Sn (Aw (Sq (Rg ?_)))
   refine rp 2 rfl ?_
   refine Wp (po_faddr rfl (by exact fc_field_119_3_5)) ?_
   refine Wp (po_load rfl (by exact fc_flat_35) (by rfl)) ?_
   refine rp 1 rfl ?_
   refine Wp (po_iaddr rfl rfl (by exact fc_slice_35_3_1) (by first | omega | (simp <;> omega)) (by first | omega | (simp <;> omega))) ?_
   refine Wp (po_load_sl rfl (List.getElem?_eq_getElem (by first | omega | (simp <;> omega))) (by exact fc_flat_3) (by rfl)) ?_
   refine Wp (po_eq rfl rfl) ?_
   refine Sn (Aw ?_)
   refine Rc rfl ?_ ?_
   ·skip
    intro hd
    have w2 := w1.popNew hc hf hk hx hq hyl hyg hz2 (by omega)
    have hun := uns_set d1 it.toNat k (by rw [List.getElem?_eq_getElem (by omega), ← hdg]; congr 1; omega) (by have := hw.2.2; omega)
    refine Sq (Rg ?_)
    refine rp 2 rfl ?_
    refine Wp (po_faddr rfl (by exact fc_field_119_3_5)) ?_
    refine Wp (po_load rfl (by exact fc_flat_35) (by rfl)) ?_
    refine rp 2 rfl ?_
    refine Wp (po_iaddr rfl rfl (by exact fc_slice_35_3_1) (by first | omega | (simp <;> omega)) (by first | omega | (simp <;> omega))) ?_
    refine Ws (so_store_sl rfl rfl (List.getElem?_eq_getElem (by first | omega | (simp <;> omega))) (by exact fc_flat_3) (by decide) (by rfl) (by rfl)) ?_
    refine Sn (Aw (Rg ?_))
    refine rp 2 rfl ?_
    refine Wc (co_fn rfl rfl) (sweep_around { s with tv := tv } hc w2 hT hw.1 (by rw [gAt_set hit0 (by omega) hit0, if_pos rfl])) ?_
    rintro v41 _ ⟨l3, B3, t3, rfl, w3, hl3, rfl⟩
    try dsimp only [ca, na, SwS.l, SwS.lf]
    refine Sn (Bn (Aw (Rg ?_)))
    refine rp 1 rfl ?_
    refine Wc (co_fn rfl rfl) (sweep_fill { s with tv := tv } hc w3 hT) ?_
    rintro v14 _ ⟨a4, l4, B4, t4, td4, tv4, rfl, w4, hl4, hz4, rfl⟩
    try dsimp only [ca, na, SwS.l, SwS.lf]
    refine Sn ?_
    exact at_again ((a4, l4, B4, t4, td4, tv4, d1.set it.toNat k)) (trivial) (And.intro rfl (trivial)) (⟨w4, hz4⟩) (by dsimp only; omega) ent
   ·skip
    intro hd
    have w2 := w1.popOld hf hk hx hq hyl hyg hz2 (by omega)
    refine Sk (Bn (Aw (Rg ?_)))
    refine rp 1 rfl ?_
    refine Wc (co_fn rfl rfl) (sweep_fill { s with tv := tv } hc w2 hT) ?_
    rintro v14 _ ⟨a4, l4, B4, t4, td4, tv4, rfl, w4, hl4, hz4, rfl⟩
    try dsimp only [ca, na, SwS.l, SwS.lf]
    refine Sn ?_
    exact at_again ((a4, l4, B4, t4, td4, tv4, d1)) (trivial) (And.intro rfl (trivial)) (⟨w4, hz4⟩) (by dsimp only; omega) ent
  ·skip
   intro hl1
   refine Ex' (Ax (Ax (Bh ?_)))
   have hle : l1 = 0 := by omega
   have htd : td = [] := hz1.elim id (fun e => by omega)
   subst hle htd
   refine at_end0 rfl ⟨_, ⟨a1, B1, d1, t1, tv, rfl, w1, rfl⟩, ?_⟩
   try dsimp only [ca, na, SwS.l, SwS.lf]
   exact ent
end Hd
end
section
namespace Hd
/-! ## the order of seeds -/
def ltS (a b : Seed) : Prop := ordI a b < 0
def leS (a b : Seed) : Prop := ¬ ltS b a
theorem ltS_iff (a b : Seed) : ltS a b ↔ a.key < b.key ∨ (a.key = b.key ∧ (a.cell < b.cell ∨ (a.cell = b.cell ∧ a.side < b.side))) := by
  unfold ltS ordI
  simp only [orI, cmpI]
  by_cases h1 : a.key < b.key
  · simp [h1]
  · by_cases h2 : b.key < a.key
    · simp [h1, h2]; omega
    · by_cases h3 : a.cell < b.cell
      · simp [h1, h2, h3]; omega
      · by_cases h4 : b.cell < a.cell
        · simp [h1, h2, h3, h4]; omega
        · by_cases h5 : a.side < b.side
          · simp [h1, h2, h3, h4, h5]; omega
          · by_cases h6 : b.side < a.side
            · simp [h1, h2, h3, h4, h5, h6]
            · simp [h1, h2, h3, h4, h5, h6]
instance (a b : Seed) : Decidable (ltS a b) := by unfold ltS; infer_instance
theorem leS_refl (a : Seed) : leS a a := by unfold leS; rw [ltS_iff]; omega
theorem leS_trans {a b c : Seed} (h1 : leS a b) (h2 : leS b c) : leS a c := by unfold leS at *; rw [ltS_iff] at *; omega
theorem leS_of {a b : Seed} (h : ltS a b) : leS a b := by unfold leS; rw [ltS_iff] at *; omega
theorem ltS_trans {a b c : Seed} (h1 : ltS a b) (h2 : ltS b c) : ltS a c := by rw [ltS_iff] at *; omega
theorem ltS_le {a b c : Seed} (h1 : ltS a b) (h2 : leS b c) : ltS a c := by unfold leS at h2; rw [ltS_iff] at *; omega
theorem leS_lt {a b c : Seed} (h1 : leS a b) (h2 : ltS b c) : ltS a c := by unfold leS at h1; rw [ltS_iff] at *; omega
theorem leS_anti {a b : Seed} (h1 : leS a b) (h2 : leS b a) : a = b := by
  unfold leS at *
  rw [ltS_iff] at *
  cases a; cases b; simp at *; omega
/-! ## lists -/
def sg (l : List Seed) (i : Nat) : Seed := l.getD i ⟨0, 0, 0⟩
theorem sg_get {l : List Seed} {i : Nat} (h : i < l.length) : sg l i = l[i] := by simp [sg, h]
def sws (l : List Seed) (i p : Nat) : List Seed := (l.set i (sg l p)).set p (sg l i)
theorem sws_len (l : List Seed) (i p : Nat) : (sws l i p).length = l.length := by simp [sws]
theorem sws_get {l : List Seed} {i p j : Nat} (hi : i < l.length) (hp : p < l.length) : sg (sws l i p) j = if j = p then sg l i else if j = i then sg l p else sg l j := by
  unfold sws sg
  rw [List.getD_eq_getElem?_getD, List.getElem?_set, List.getElem?_set]
  by_cases e : p = j
  · subst e; simp [hp]
  · have e' : ¬ j = p := fun x => e x.symm
    by_cases e2 : i = j
    · subst e2; simp [e, e', hi]
    · have e2' : ¬ j = i := fun x => e2 x.symm
      simp [e, e', e2, e2']
theorem sws_perm {l : List Seed} {i p : Nat} (hi : i < l.length) (hp : p < l.length) : (sws l i p).Perm l := by
  unfold sws
  rw [sg_get hi, sg_get hp]
  exact List.set_set_perm hi hp
/-- only what lies from a to b is put in another order -/
structure Seg (a b : Nat) (l l' : List Seed) : Prop where
  len : l'.length = l.length
  out : ∀ i, i < a ∨ b ≤ i → sg l' i = sg l i
  perm : l'.Perm l
theorem Seg.refl (a b : Nat) (l : List Seed) : Seg a b l l := ⟨rfl, fun _ _ => rfl, .rfl⟩
theorem Seg.trans {a b : Nat} {l m n : List Seed} (h : Seg a b l m) (k : Seg a b m n) : Seg a b l n := ⟨k.len.trans h.len, fun i hi => (k.out i hi).trans (h.out i hi), k.perm.trans h.perm⟩
theorem Seg.mono {a b a' b' : Nat} {l m : List Seed} (h : Seg a b l m) (h1 : a' ≤ a) (h2 : b ≤ b') : Seg a' b' l m := ⟨h.len, fun i hi => h.out i (by omega), h.perm⟩
theorem Seg.swap {a b i p : Nat} {l : List Seed} (hl : b ≤ l.length) (hi : a ≤ i ∧ i < b) (hp : a ≤ p ∧ p < b) : Seg a b l (sws l i p) :=
  ⟨sws_len l i p, fun j hj => by rw [sws_get (by omega) (by omega), if_neg (by omega), if_neg (by omega)], sws_perm (by omega) (by omega)⟩
/-- in order from a to b -/
def Srt (a b : Nat) (l : List Seed) : Prop := ∀ p q, a ≤ p → p < q → q < b → leS (sg l p) (sg l q)
/-- .. but for the one at j, which may come ahead of those before it -/
def SrtBut (a b j : Nat) (l : List Seed) : Prop := ∀ p q, a ≤ p → p < q → q < b → q ≠ j → leS (sg l p) (sg l q)
theorem srt_ins {a b j : Nat} {l : List Seed} (hl : b ≤ l.length) (h : SrtBut a b j l) (hj : a < j ∧ j < b) (hlt : ltS (sg l j) (sg l (j - 1))) : SrtBut a b (j - 1) (sws l j (j - 1)) := by
  intro p q h1 h2 h3 h4
  rw [sws_get (by omega) (by omega), sws_get (by omega) (by omega), if_neg h4]
  by_cases e : q = j
  · rw [if_pos e]
    by_cases e2 : p = j - 1
    · rw [if_pos e2]; exact leS_of hlt
    · rw [if_neg e2, if_neg (by omega)]; exact h p (j - 1) h1 (by omega) (by omega) (by omega)
  · rw [if_neg e]
    by_cases e2 : p = j - 1
    · rw [if_pos e2]; exact h j q (by omega) (by omega) h3 e
    · rw [if_neg e2]
      by_cases e3 : p = j
      · rw [if_pos e3]; exact h (j - 1) q (by omega) (by omega) h3 e
      · rw [if_neg e3]; exact h p q h1 h2 h3 e
theorem srt_stop {a b j : Nat} {l : List Seed} (h : SrtBut a b j l) (hj : j ≤ a ∨ leS (sg l (j - 1)) (sg l j)) : Srt a b l := by
  intro p q h1 h2 h3
  by_cases e : q = j
  · subst e
    rcases hj with hj | hj
    · omega
    · by_cases e2 : p = q - 1
      · rw [e2]; exact hj
      · exact leS_trans (h p (q - 1) h1 (by omega) (by omega) (by omega)) hj
  · exact h p q h1 h2 h3 e
end Hd
end
section
-- the sort, laid at this program (lay-plain.mjs)
namespace Go.Proofs
open Go.Shelf
def Tryz.sortS_ren : Go.Shelf.Ren := ⟨fun | 6 => 76 | 15 => 102 | 14 => 101 | 28 => 132 | 29 => 133 | 20 => 124 | 21 => 125 | 22 => 126 | 23 => 127 | 24 => 128 | 25 => 129 | 26 => 130 | 27 => 131 | 46 => 150 | 47 => 151 | 48 => 152 | 49 => 153 | 50 => 154 | 57 => 158 | n => n, fun | 22 => 32 | 24 => 45 | 25 => 110 | 3 => 3 | 39 => 139 | 0 => 0 | 53 => 172 | 55 => 96 | 4 => 4 | 46 => 166 | 45 => 165 | 50 => 132 | 5 => 5 | 9 => 9 | 66 => 184 | 70 => 188 | 76 => 193 | 77 => 66 | n => n, fun | n => n⟩
theorem Tryz.sortS : Go.Proofs.SlLaysF0.n6 Tryz.prog Tryz.sortS_ren := {
  mixed := by kernel_rfl
  f6 := ⟨Tryz.f76.name, by decide, Tryz.func76.trans (congrArg some (by kernel_rfl))⟩
  f14 := ⟨Tryz.f101.name, by decide, Tryz.func101.trans (congrArg some (by kernel_rfl))⟩
  f15 := Tryz.func102.trans (congrArg some (by kernel_rfl))
  f20 := ⟨Tryz.f124.name, by decide, Tryz.func124.trans (congrArg some (by kernel_rfl))⟩
  f21 := ⟨Tryz.f125.name, by decide, Tryz.func125.trans (congrArg some (by kernel_rfl))⟩
  f22 := ⟨Tryz.f126.name, by decide, Tryz.func126.trans (congrArg some (by kernel_rfl))⟩
  f23 := ⟨Tryz.f127.name, by decide, Tryz.func127.trans (congrArg some (by kernel_rfl))⟩
  f24 := ⟨Tryz.f128.name, by decide, Tryz.func128.trans (congrArg some (by kernel_rfl))⟩
  f25 := ⟨Tryz.f129.name, by decide, Tryz.func129.trans (congrArg some (by kernel_rfl))⟩
  f26 := ⟨Tryz.f130.name, by decide, Tryz.func130.trans (congrArg some (by kernel_rfl))⟩
  f27 := ⟨Tryz.f131.name, by decide, Tryz.func131.trans (congrArg some (by kernel_rfl))⟩
  f28 := Tryz.func132.trans (congrArg some (by kernel_rfl))
  f29 := Tryz.func133.trans (congrArg some (by kernel_rfl))
  f46 := ⟨Tryz.f150.name, by decide, Tryz.func150.trans (congrArg some (by kernel_rfl))⟩
  f47 := Tryz.func151.trans (congrArg some (by kernel_rfl))
  f48 := Tryz.func152.trans (congrArg some (by kernel_rfl))
  f49 := ⟨Tryz.f153.name, by decide, Tryz.func153.trans (congrArg some (by kernel_rfl))⟩
  f50 := ⟨Tryz.f154.name, by decide, Tryz.func154.trans (congrArg some (by kernel_rfl))⟩
  f57 := ⟨Tryz.f158.name, by decide, Tryz.func158.trans (congrArg some (by kernel_rfl))⟩
  t0 := Tryz.underlying0
  a0 := Tryz.isAgg0
  z0 := Tryz.sizeOf0
  v0 := Tryz.zeroValue0
  t3 := Tryz.underlying3
  a3 := Tryz.isAgg3
  z3 := Tryz.sizeOf3
  v3 := Tryz.zeroValue3
  t4 := Tryz.underlying4
  a4 := Tryz.isAgg4
  z4 := Tryz.sizeOf4
  v4 := Tryz.zeroValue4
  t5 := Tryz.underlying5
  a5 := Tryz.isAgg5
  z5 := Tryz.sizeOf5
  v5 := Tryz.zeroValue5
  t9 := Tryz.underlying9
  a9 := Tryz.isAgg9
  z9 := Tryz.sizeOf9
  v9 := Tryz.zeroValue9
  t22 := Tryz.underlying32
  a22 := Tryz.isAgg32
  z22 := Tryz.sizeOf32
  v22 := Tryz.zeroValue32
  t25 := Tryz.underlying110
  a25 := Tryz.isAgg110
  z25 := Tryz.sizeOf110
  v25 := Tryz.zeroValue110
  t39 := Tryz.underlying139
  a39 := Tryz.isAgg139
  z39 := Tryz.sizeOf139
  v39 := Tryz.zeroValue139
  t45 := Tryz.underlying165
  a45 := Tryz.isAgg165
  z45 := Tryz.sizeOf165
  v45 := Tryz.zeroValue165
  t46 := Tryz.underlying166
  a46 := Tryz.isAgg166
  z46 := Tryz.sizeOf166
  v46 := Tryz.zeroValue166
  t50 := Tryz.underlying132
  a50 := Tryz.isAgg132
  z50 := Tryz.sizeOf132
  v50 := Tryz.zeroValue132
  t53 := Tryz.underlying172
  a53 := Tryz.isAgg172
  z53 := Tryz.sizeOf172
  v53 := Tryz.zeroValue172
  t55 := Tryz.underlying96
  a55 := Tryz.isAgg96
  z55 := Tryz.sizeOf96
  v55 := Tryz.zeroValue96
  t66 := Tryz.underlying184
  a66 := Tryz.isAgg184
  z66 := Tryz.sizeOf184
  v66 := Tryz.zeroValue184
  t70 := Tryz.underlying188
  a70 := Tryz.isAgg188
  z70 := Tryz.sizeOf188
  v70 := Tryz.zeroValue188
  t76 := Tryz.underlying193
  a76 := Tryz.isAgg193
  z76 := Tryz.sizeOf193
  v76 := Tryz.zeroValue193
  t77 := Tryz.underlying66
  a77 := Tryz.isAgg66
  z77 := Tryz.sizeOf66
  v77 := Tryz.zeroValue66 }
end Go.Proofs
end
section
namespace Hd
set_option maxRecDepth 100000
open Go

/-! ## from a contract here to a world told whole, and back -/
theorem spec_grow {P : Program} {f : FuncId} {args : Array Value} {r : Value} (h : Spec P f args [] (fun v M => v = r ∧ M = [])) (w : World) :
    Calls P f args w fun e w' => e = .returned r ∧ ∃ q os', w' = Go.Sort.grow (w.drewN q) os' := by
  refine (h.calls ⟨w.os, w.tape, w.output, w.drawn⟩ (fun hh => ∀ b o, w.heap[b]? = some o → hh b = some o) w ⟨rfl, rfl, rfl, Nat.le_refl _, ?_⟩).mono ?_
  · exact ⟨frag w, fun _ => none, fun b => .inr ⟨rfl, rfl⟩, fun b o e => e, trivial⟩
  · rintro e w' ⟨v, M, rfl, ⟨rfl, rfl⟩, fw⟩
    obtain ⟨h1, h2, j, ha, -⟩ := fw.sat
    have hk : ∀ b o, w.heap[b]? = some o → w'.heap[b]? = some o := fun b o e => j.sub_left b o (ha b o e)
    have hs : w.heap.size ≤ w'.heap.size := by
      rcases Nat.lt_or_ge w'.heap.size w.heap.size with hlt | hge
      · have := hk w'.heap.size w.heap[w'.heap.size] (by simp [hlt])
        simp at this
      · exact hge
    refine ⟨rfl, w'.drawn - w.drawn, w'.heap.extract w.heap.size w'.heap.size, ?_⟩
    have hh : w'.heap = w.heap ++ w'.heap.extract w.heap.size w'.heap.size := by
      apply Array.ext_getElem?
      intro i
      rw [Array.getElem?_append]
      split
      · rename_i hi
        rw [hk i w.heap[i] (by simp [hi])]; simp [hi]
      · rename_i hi
        rw [Array.getElem?_extract]
        by_cases hlt : i < w'.heap.size
        · rw [if_pos (by omega), show w.heap.size + (i - w.heap.size) = i by omega]
        · rw [if_neg (by omega)]; simp; omega
    have hd : w.drawn + (w'.drawn - w.drawn) = w'.drawn := by have := fw.dr; simp only at this; omega
    have e1 := fw.os
    have e2 := fw.tape
    have e3 := fw.output
    simp only at e1 e2 e3
    cases w'
    simp only at hh hd e1 e2 e3
    simp only [Go.Sort.grow, World.drewN, hd, ← hh, e1, e2, e3]

theorem flatK_get {α : Type} [Inhabited α] (E : Enc α) (d : List α) (t : Nat) (ht : t < d.length * E.k) : (d.flatMap E.f)[t]? = some (Go.Sort.flatK E.f E.k d.toArray)[t]! := by
  have hk := E.pos
  have hd : t / E.k < d.length := Nat.div_lt_of_lt_mul (by rw [Nat.mul_comm]; exact ht)
  have hm := Nat.mod_lt t hk
  have ht2 : t = t / E.k * E.k + t % E.k := by rw [Nat.mul_comm]; exact (Nat.div_add_mod t E.k).symm
  rw [Go.Sort.get_flatK _ _ _ _ (by simpa using ht)]
  have e : d.toArray[t / E.k]! = d[t / E.k] := by simp [hd]
  rw [e]
  conv => lhs; rw [ht2]
  rw [flat_get E d _ _ d[t / E.k] (List.getElem?_eq_getElem hd) hm]
  have : t % E.k < (E.f d[t / E.k]).length := by rw [E.len]; exact hm
  simp [this]
theorem sl_holds {α : Type} [Inhabited α] {E : Enc α} {g : Gl} {b off : Nat} {pre post : List Value} {xs : List α} {R : List HP} {w : World} (hp : pre.length = off) (f : Fit g (Blk b E.T (pre ++ (xs.flatMap E.f ++ post)) :: R) w) :
    Go.Sort.HoldsK E.f E.k w b off xs.toArray ∧ b < w.heap.size := by
  have hb := sat_pt f.sat
  simp only [frag] at hb
  refine ⟨fun j hj => ?_, ?_⟩
  · have hj' : j < xs.length * E.k := by simpa using hj
    have := flatK_get E xs j hj'
    refine ⟨?_, by simp [World.frozen?, hb]⟩
    have e : (pre ++ (xs.flatMap E.f ++ post))[off + j]? = some (Go.Sort.flatK E.f E.k xs.toArray)[j]! := by
      rw [← hp, List.getElem?_append_right (by omega), Nat.add_sub_cancel_left, List.getElem?_append_left (by rw [flat_len]; exact hj'), this]
    exact f.cellL e
  · rcases Nat.lt_or_ge b w.heap.size with h | h
    · exact h
    · simp [h] at hb
theorem sorted_fit {α : Type} [Inhabited α] {E : Enc α} {g : Gl} {b off : Nat} {pre post : List Value} {xs : List α} {R : List HP} {w : World} (hp : pre.length = off) (f : Fit g (Blk b E.T (pre ++ (xs.flatMap E.f ++ post)) :: R) w) (n : Nat) (ys : List α) (hl : ys.length = xs.length) (os : Array Obj) :
    Fit g (Blk b E.T (pre ++ (ys.flatMap E.f ++ post)) :: R) (Go.Proofs.sortWorldK E.f E.k w b off n ys.toArray os) := by
  have hb := sat_pt f.sat
  simp only [frag] at hb
  have hsz : b < w.heap.size := (sl_holds hp f).2
  have hc : Go.Sort.putCells id off (Go.Sort.flatK E.f E.k ys.toArray) (pre ++ (xs.flatMap E.f ++ post)).toArray = (pre ++ (ys.flatMap E.f ++ post)).toArray := by
    apply Array.ext_getElem?
    intro i
    unfold Go.Sort.putCells
    rw [Array.getElem?_mapIdx]
    simp only [Go.Sort.size_flatK, List.getElem?_toArray, List.size_toArray, id]
    have hlx := flat_len E xs
    have hly := flat_len E ys
    rw [hl] at hly
    obtain ⟨m, hm⟩ : ∃ m, m = xs.length * E.k := ⟨_, rfl⟩
    rw [← hm] at hlx hly
    rw [hl, ← hm]
    by_cases h1 : i < pre.length
    · rw [List.getElem?_append_left h1, List.getElem?_append_left h1]
      have : ¬ (off ≤ i ∧ i < off + m) := by omega
      simp [this, h1]
    · have hi : pre.length ≤ i := by omega
      rw [List.getElem?_append_right hi, List.getElem?_append_right hi]
      by_cases h2 : i - pre.length < m
      · rw [List.getElem?_append_left (by omega : i - pre.length < (xs.flatMap E.f).length), List.getElem?_append_left (by omega : i - pre.length < (ys.flatMap E.f).length)]
        have hk := flatK_get E ys (i - pre.length) (by rw [hl, ← hm]; exact h2)
        have : off ≤ i ∧ i < off + m := by omega
        rw [hk, List.getElem?_eq_getElem (by omega)]
        simp only [Option.map_some, if_pos this]
        rw [← hp]
      · rw [List.getElem?_append_right (by omega : (xs.flatMap E.f).length ≤ i - pre.length), List.getElem?_append_right (by omega : (ys.flatMap E.f).length ≤ i - pre.length), hlx, hly]
        have : ¬ (off ≤ i ∧ i < off + m) := by omega
        simp only [if_neg this]
        simp
  refine ⟨f.os, f.tape, f.output, Nat.le_trans f.dr (Nat.le_add_right _ _), ?_⟩
  have s1 := sat_upd (h' := fun c => if c = b then some (.cells (pre ++ (ys.flatMap E.f ++ post)).toArray E.T (0, 0)) else frag w c) f.sat (if_pos rfl) (fun c hcb => if_neg hcb)
  refine Sat.mono (fun c o e => ?_) s1
  have hh : (Go.Proofs.sortWorldK E.f E.k w b off n ys.toArray os).heap = w.heap.modify b (Go.Sort.onCells (Go.Sort.putCells id off (Go.Sort.flatK E.f E.k ys.toArray))) ++ os := rfl
  show (Go.Proofs.sortWorldK E.f E.k w b off n ys.toArray os).heap[c]? = some o
  rw [hh]
  split at e
  · rename_i ec
    subst ec
    rw [Array.getElem?_append_left (by simpa using hsz), Array.getElem?_modify, if_pos rfl, hb]
    simp only [Option.map_some, Go.Sort.onCells, hc]
    exact e
  · rename_i ec
    simp only [frag] at e
    have hcs : c < w.heap.size := by
      rcases Nat.lt_or_ge c w.heap.size with h | h
      · exact h
      · simp [h] at e
    rw [Array.getElem?_append_left (by simpa using hcs), Array.getElem?_modify, if_neg (fun x => ec x.symm)]
    exact e

/-! ## slices.SortFunc at seeds -/
theorem swo_ord : Go.Sort.SWO (Go.Proofs.ltOf ordI) := by
  have e : ∀ x y, Go.Proofs.ltOf ordI x y = decide (ltS x y) := fun x y => rfl
  refine ⟨fun x => ?_, fun x y z h1 h2 => ?_, fun x y z h1 h2 => ?_⟩
  · rw [e]; exact decide_eq_false (leS_refl x)
  · rw [e] at *; exact decide_eq_true (ltS_trans (of_decide_eq_true h1) (of_decide_eq_true h2))
  · rw [e] at *; exact decide_eq_false (leS_trans (of_decide_eq_false h2) (of_decide_eq_false h1))
abbrev cmpV : Value := .func (.func 77) #[] #[]
theorem sortFunc_S (v : Value) (l : List Seed) (hl : l.length ≤ 2^30) : Spec PP 76 #[v, cmpV] [Sl eS v l]
    (fun r M => ∃ l', r = .tuple #[] ∧ M = [Sl eS v l'] ∧ l'.Perm l ∧ l'.Pairwise leS) := by
  refine ⟨fc_enters_76, fun g F w fw => ?_⟩
  rcases l with _ | ⟨x, l⟩
  · obtain ⟨h1, h2, j, ha, hr⟩ := fw.sat
    have hv : ∃ p cap, v = .slice p 0 cap := by
      rcases ha with ⟨e, -⟩ | ⟨b, off, cap, pre, post, e, -⟩
      · exact ⟨_, _, e⟩
      · exact ⟨_, _, e⟩
    obtain ⟨p, cap, rfl⟩ := hv
    refine (Go.Proofs.AnyF.slices_SortFunc_none Go.Proofs.Tryz.sortS p cap cmpV w).mono ?_
    rintro e w' ⟨rfl, rfl⟩
    exact ⟨_, _, rfl, ⟨[], rfl, rfl, .rfl, .nil⟩, fw⟩
  · obtain ⟨b, off, cap, pre, post, rfl, hcap, hpre, hpost, fw'⟩ := sl_open fw (i := 0) (by simp)
    obtain ⟨hH, hblk⟩ := sl_holds hpre fw'
    have hcon := Go.Proofs.AnyQ.slices_SortFunc Go.Proofs.Tryz.sortS 3 (isAgg_agg fc_agg_45_3) (size_agg fc_agg_45_3) eS.f eS.len eS.one ordI swo_ord 77 #[] b off cap (x :: l).toArray w
      fc_enters_77 (fun m os dk _ y z => spec_grow (seeds_order y z) _) hH hblk (by simp only [List.size_toArray, List.length_cons] at hl ⊢; omega)
    refine hcon.mono ?_
    rintro e w' ⟨rfl, d', n, os, hperm, hsrt, rfl⟩
    have hsz : d'.size = (x :: l).length := by have := hperm.1; simpa using this
    refine ⟨_, _, rfl, ⟨d'.toList, rfl, rfl, ?_, ?_⟩, ?_⟩
    · have := hperm.2.2
      have e1 : d'.extract 0 (x :: l).toArray.size = d' := by rw [List.size_toArray, ← hsz]; exact Array.extract_size
      have e2 : (x :: l).toArray.extract 0 (x :: l).toArray.size = (x :: l).toArray := Array.extract_size
      rw [e1, e2] at this; exact this
    · rw [List.pairwise_iff_getElem]
      intro i j hi hj hij
      simp only [Array.length_toList] at hi hj
      have := hsrt i j (Nat.zero_le _) hij (by rw [List.size_toArray, ← hsz]; exact hj)
      rw [getElem!_pos d' j hj, getElem!_pos d' i hi] at this
      exact of_decide_eq_false this
    · have := sorted_fit hpre fw' n d'.toList (by simpa using hsz) os
      rw [Array.toArray_toList] at this
      obtain ⟨h1, h2, j, ha, hr⟩ := this.sat
      refine ⟨this.os, this.tape, this.output, this.dr, h1, h2, j, .inr ⟨b, off, cap, pre, post, ?_, ?_, hpre, ?_, ha⟩, hr⟩
      · simp [hsz]
      · simpa [hsz] using hcap
      · simpa [hsz] using hpost
theorem seeds_Sort (lv : Value) (l : List Seed) (hn : l.Nodup) (hl : l.length ≤ 2^20) : Spec PP 48 #[lv] [Sl eS lv l] (fun v M => ∃ ys, M = [Sl eS lv l, Sl eS v ys] ∧ ys.Perm l ∧ ys.Pairwise fun x y => ordI x y < 0) := by
  refine spec_of (Go.Proofs.Tryz.func48) rfl rfl rfl (by exact fc_enters_48) ?_
  intro g F
  try dsimp only [ca, na]
  refine Sq (Rg ?_)
  refine rp 1 rfl ?_
  refine Sn (Aw (Sq (Rg ?_)))
  refine rp 1 rfl ?_
  refine Wc (co_fn rfl rfl) (clone_S lv l (by omega)) ?_
  rintro v4 _ rfl
  try dsimp only [ca, na]
  refine rp 1 rfl ?_
  refine Sn (Aw (Sq (Rg ?_)))
  refine rp 1 rfl ?_
  refine Wc (co_fn rfl rfl) (sortFunc_S v4 l (by omega)) ?_
  rintro v6 _ ⟨l', rfl, rfl, hp, hs⟩
  try dsimp only [ca, na]
  have hn' : l'.Nodup := hp.nodup_iff.2 hn
  have hlt : l'.Pairwise fun x y => ordI x y < 0 := (hs.and hn').imp fun {x y} h => Classical.byContradiction fun h2 => h.2 (leS_anti h.1 h2)
  refine Sn (Aw (Sq (Rg ?_)))
  refine rp 1 rfl ?_
  refine Wc (co_fn rfl rfl) (compact_S v4 l' (by have := hp.length_eq; omega) (fun i hi e => by have := List.pairwise_iff_getElem.1 hn' i (i + 1) (by omega) hi (by omega); exact this e.symm)) ?_
  rintro v8 _ ⟨rfl, rfl⟩
  try dsimp only [ca, na]
  refine rp 1 rfl ?_
  refine Sn (Aw (Rt ?_))
  refine at_ret1 rfl (rv_tmp rfl) ⟨_, ⟨l', rfl, hp, hlt⟩, ?_⟩
  try dsimp only [ca, na]
  exact ent
end Hd
end
section
namespace Hd
set_option maxRecDepth 100000
open Go



theorem ord_key {x y : Seed} (h : ordI x y < 0) : x.key ≤ y.key := by
  unfold ordI orI cmpI at h
  by_cases e : x.key < y.key
  · omega
  · by_cases e2 : y.key < x.key
    · simp [e, e2] at h
    · omega

theorem sweep_Spread (tc lv : Value) (t : Tile) (l : List Seed) (hm : MayS t l) (hb : ∀ x ∈ t.c, 1 ≤ x ∧ x ≤ 255) (hn : l.Nodup) (hl : l.length ≤ 2^20) :
    Spec PP 55 #[tileV tc t, lv] [Sl eB tc t.c, Sl eS lv l]
      (fun v M => ∃ dv d, v = .tuple #[dv, .int .i64 0] ∧ M = [Sl eB tc t.c, Sl eS lv l, Sl eI dv d] ∧ d.length = t.c.length ∧ IsDist t.w t.h t.c (srcS l) (dF d)) := by
  obtain ⟨⟨hw, hh, hlen, h0⟩, hsd⟩ := id hm
  have hmul : t.w * t.h ≤ 16 * 16 := Int.mul_le_mul hw.2 hh.2 (by have := hh.1; omega) (by decide)
  have hsc : SwC t.w t.h t.c l := ⟨⟨⟨hw.1, by have := hw.2; omega⟩, hh.1, by have := hh.2; omega⟩, hlen, by omega, hb, fun s hs => by have := hsd s hs; exact ⟨⟨this.1, this.2.1, this.2.2.1⟩, this.2.2.2.1, this.2.2.2.2.1⟩, by omega⟩
  refine spec_of (Go.Proofs.Tryz.func55) rfl rfl rfl (by exact fc_enters_55) ?_
  intro g F
  try dsimp only [ca, na, SwS.l, SwS.lf, SwS.p]
  refine Sq (Rg ?_)
  refine Wx (xo_box rfl rfl) ?_
  rintro _ _ ⟨b2, rfl, rfl⟩
  refine rp 2 rfl ?_
  refine Sn (Aw (Sq (Sq (Rg ?_))))
  refine Wp (po_loada rfl (by exact fc_agg_41_3) (by rfl)) ?_
  refine rp 1 rfl ?_
  refine Wc (co_fn rfl rfl) (seeds_May tc lv t l (by omega) (by omega)) ?_
  rintro v9 _ ⟨rfl, rfl⟩
  try dsimp only [ca, na, SwS.l, SwS.lf, SwS.p]
  refine Wp (po_not rfl) ?_
  refine Sn (Aw ?_)
  refine r_cond_f rfl (by simp [hm]) ?_
  refine Sk (Aw ?_)
  refine r_joink (S := Nat × Nat × Value × Value × List Seed) (fun ⟨b, rb, sv, dv, ys⟩ => [(6, .pointer (some ⟨b, 0, none⟩))]) [] (fun ⟨b, rb, sv, dv, ys⟩ => [Blk b 119 [.int .i64 t.w, .int .i64 t.h, tc, ringP rb, sv, dv], Sl eB tc t.c, Sl eS sv ys, Sl eI dv (List.replicate t.c.length 1099511627776), ringB rb 0 0 noB, All (noB.map slK), Sl eS lv l, F]) (fun ⟨b, rb, sv, dv, ys⟩ => ys.Perm l ∧ ys.Pairwise fun x y => ordI x y < 0) (trivial) ?_ ?_
  ·skip
   refine r_tree [] _ 12 fc_mixed (by kernel_rfl) (fun _ h => h) ?_
   refine t_rd (i := 0) (by kernel_rfl) rfl (po_loada rfl (by exact fc_agg_41_3) (by rfl)) (by first | exact fun _ h => h | exact ent) rfl rfl rfl ?_
   refine t_fr (i := 2) (by kernel_rfl) rfl (po_move rfl) rfl rfl rfl ?_
   refine t_fr (i := 5) (by kernel_rfl) rfl (po_faddr rfl (by exact fc_field_41_2_2)) rfl rfl rfl ?_
   refine t_rd (i := 6) (by kernel_rfl) rfl (po_load rfl (by exact fc_flat_22) (by rfl)) (by first | exact fun _ h => h | exact ent) rfl rfl rfl ?_
   refine t_rd (i := 7) (by kernel_rfl) rfl (po_len rfl (by exact fc_slice_22_5_1)) (by first | exact fun _ h => h | exact ent) rfl rfl rfl ?_
   refine t_br2 (i := 1) (j := 4) (by kernel_rfl) ?_ ?_
   ·skip
    refine tb rfl (st_call (co_fn rfl rfl) (ring_New 0 (by decide) (by decide)) (by infer_instance) rfl rfl rfl ?_)
    rintro v12 _ ⟨rb, rfl, rfl⟩
    try dsimp only [ca, na, SwS.l, SwS.lf, SwS.p]
    refine ⟨fun _ => (by first | exact fun _ h => h | exact ent), ?_⟩
    refine t_br2 (i := 3) (j := 4) (by kernel_rfl) ?_ ?_
    ·skip
     refine tb rfl (st_call (co_fn rfl rfl) (seeds_Sort lv l hn hl) (by infer_instance) rfl rfl rfl ?_)
     rintro v14 _ ⟨ys, rfl, hp, hys⟩
     try dsimp only [ca, na, SwS.l, SwS.lf, SwS.p]
     refine ⟨fun _ => (by first | exact fun _ h => h | exact ent), ?_⟩
     refine t_st (i := 4) (by kernel_rfl) rfl (st_xo (xo_bslice eI [_] rfl (by exact fc_slice_35_3_1) (by exact fc_elem_3_1_8) ⟨rfl, rfl, trivial⟩ rfl (by decide)) rfl rfl rfl ?_)
     rintro v15 _ rfl
     refine ⟨fun _ => (by first | exact fun _ h => h | exact ent), ?_⟩
     refine t_st (i := 8) (by kernel_rfl) rfl (st_call (co_fn rfl rfl) (repeat_I v15 1099511627776 t.c.length (by omega) (by omega)) (by infer_instance) rfl rfl rfl ?_)
     rintro v19 _ rfl
     try dsimp only [ca, na, SwS.l, SwS.lf, SwS.p]
     refine ⟨fun _ => (by first | exact fun _ h => h | exact ent), ?_⟩
     refine t_st (i := 9) (by kernel_rfl) rfl (st_po (po_build1 rfl (by exact fc_zero_119) (by exact fc_places_119_0_1_2_3) (by exact fc_info_119) rfl) rfl rfl rfl ?_)
     refine ⟨fun _ => (by first | exact fun _ h => h | exact ent), ?_⟩
     refine t_st (i := 10) (by kernel_rfl) rfl (st_xo (xo_box rfl rfl) rfl rfl rfl ?_)
     rintro _ _ ⟨b21, rfl, rfl⟩
     refine ⟨fun _ => (by first | exact fun _ h => h | exact ent), ?_⟩
     refine t_fr (i := 11) (by kernel_rfl) rfl (po_assign rfl) rfl rfl rfl ?_
     refine t_nil (by kernel_rfl) ?_
     rw [Int.toNat_natCast]
     exact at_join ((b21, rb, v14, v19, ys)) (And.intro rfl (trivial)) (trivial) (⟨hp, hys⟩) ent
    ·skip
     refine tb rfl (st_xo (xo_bslice eI [_] rfl (by exact fc_slice_35_3_1) (by exact fc_elem_3_1_8) ⟨rfl, rfl, trivial⟩ rfl (by decide)) rfl rfl rfl ?_)
     rintro v15 _ rfl
     refine ⟨fun _ => (by first | exact fun _ h => h | exact ent), ?_⟩
     refine t_st (i := 3) (by kernel_rfl) rfl (st_call (co_fn rfl rfl) (seeds_Sort lv l hn hl) (by infer_instance) rfl rfl rfl ?_)
     rintro v14 _ ⟨ys, rfl, hp, hys⟩
     try dsimp only [ca, na, SwS.l, SwS.lf, SwS.p]
     refine ⟨fun _ => (by first | exact fun _ h => h | exact ent), ?_⟩
     refine t_st (i := 8) (by kernel_rfl) rfl (st_call (co_fn rfl rfl) (repeat_I v15 1099511627776 t.c.length (by omega) (by omega)) (by infer_instance) rfl rfl rfl ?_)
     rintro v19 _ rfl
     try dsimp only [ca, na, SwS.l, SwS.lf, SwS.p]
     refine ⟨fun _ => (by first | exact fun _ h => h | exact ent), ?_⟩
     refine t_st (i := 9) (by kernel_rfl) rfl (st_po (po_build1 rfl (by exact fc_zero_119) (by exact fc_places_119_0_1_2_3) (by exact fc_info_119) rfl) rfl rfl rfl ?_)
     refine ⟨fun _ => (by first | exact fun _ h => h | exact ent), ?_⟩
     refine t_st (i := 10) (by kernel_rfl) rfl (st_xo (xo_box rfl rfl) rfl rfl rfl ?_)
     rintro _ _ ⟨b21, rfl, rfl⟩
     refine ⟨fun _ => (by first | exact fun _ h => h | exact ent), ?_⟩
     refine t_fr (i := 11) (by kernel_rfl) rfl (po_assign rfl) rfl rfl rfl ?_
     refine t_nil (by kernel_rfl) ?_
     rw [Int.toNat_natCast]
     exact at_join ((b21, rb, v14, v19, ys)) (And.intro rfl (trivial)) (trivial) (⟨hp, hys⟩) ent
   ·skip
    refine tb rfl (st_xo (xo_bslice eI [_] rfl (by exact fc_slice_35_3_1) (by exact fc_elem_3_1_8) ⟨rfl, rfl, trivial⟩ rfl (by decide)) rfl rfl rfl ?_)
    rintro v15 _ rfl
    refine ⟨fun _ => (by first | exact fun _ h => h | exact ent), ?_⟩
    refine t_st (i := 1) (by kernel_rfl) rfl (st_call (co_fn rfl rfl) (ring_New 0 (by decide) (by decide)) (by infer_instance) rfl rfl rfl ?_)
    rintro v12 _ ⟨rb, rfl, rfl⟩
    try dsimp only [ca, na, SwS.l, SwS.lf, SwS.p]
    refine ⟨fun _ => (by first | exact fun _ h => h | exact ent), ?_⟩
    refine t_st (i := 3) (by kernel_rfl) rfl (st_call (co_fn rfl rfl) (seeds_Sort lv l hn hl) (by infer_instance) rfl rfl rfl ?_)
    rintro v14 _ ⟨ys, rfl, hp, hys⟩
    try dsimp only [ca, na, SwS.l, SwS.lf, SwS.p]
    refine ⟨fun _ => (by first | exact fun _ h => h | exact ent), ?_⟩
    refine t_st (i := 8) (by kernel_rfl) rfl (st_call (co_fn rfl rfl) (repeat_I v15 1099511627776 t.c.length (by omega) (by omega)) (by infer_instance) rfl rfl rfl ?_)
    rintro v19 _ rfl
    try dsimp only [ca, na, SwS.l, SwS.lf, SwS.p]
    refine ⟨fun _ => (by first | exact fun _ h => h | exact ent), ?_⟩
    refine t_st (i := 9) (by kernel_rfl) rfl (st_po (po_build1 rfl (by exact fc_zero_119) (by exact fc_places_119_0_1_2_3) (by exact fc_info_119) rfl) rfl rfl rfl ?_)
    refine ⟨fun _ => (by first | exact fun _ h => h | exact ent), ?_⟩
    refine t_st (i := 10) (by kernel_rfl) rfl (st_xo (xo_box rfl rfl) rfl rfl rfl ?_)
    rintro _ _ ⟨b21, rfl, rfl⟩
    refine ⟨fun _ => (by first | exact fun _ h => h | exact ent), ?_⟩
    refine t_fr (i := 11) (by kernel_rfl) rfl (po_assign rfl) rfl rfl rfl ?_
    refine t_nil (by kernel_rfl) ?_
    rw [Int.toNat_natCast]
    exact at_join ((b21, rb, v14, v19, ys)) (And.intro rfl (trivial)) (trivial) (⟨hp, hys⟩) ent
  ·skip
   rintro ⟨b, rb, sv, dv, ys⟩ ⟨hp, hys⟩
   try dsimp only [ca, na, SwS.l, SwS.lf, SwS.p]
   have sw0 := Sw.start (T := ys.length + 4 * t.c.length) hsc ys (fun s => hp.mem_iff) (hys.imp ord_key) (by omega)
   refine Sq (Rg ?_)
   refine rp 1 rfl ?_
   refine Wc (co_fn rfl rfl) (sweep_run ⟨b, t.w, t.h, tc, t.c, rb, sv, dv⟩ hsc sw0 (by have := hp.length_eq; omega)) ?_
   rintro v23 _ ⟨a', B', d', tot', tv', rfl, w', rfl⟩
   try dsimp only [ca, na, SwS.l, SwS.lf, SwS.p]
   refine Sn (Aw (Sq (Rg ?_)))
   refine rp 2 rfl ?_
   refine Wp (po_faddr rfl (by exact fc_field_119_3_5)) ?_
   refine Wp (po_load rfl (by exact fc_flat_35) (by rfl)) ?_
   refine rp 2 rfl ?_
   refine Sn (Aw (Rt ?_))
   refine at_ret2 rfl (rv_tmp rfl) (rv_tmp rfl) ⟨_, ⟨dv, d', rfl, rfl, w'.dl, w'.done hsc⟩, ?_⟩
   try dsimp only [ca, na, SwS.l, SwS.lf, SwS.p]
   exact ent
end Hd
end
