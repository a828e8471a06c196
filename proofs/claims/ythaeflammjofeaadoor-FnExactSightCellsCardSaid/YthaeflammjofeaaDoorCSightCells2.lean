/- Contracts of the functions that FnExactSightCells reaches, by the abstract machine (part 2).
   Conditions: none. -/
import Derived.Test.YthaeflammjofeaaDoorCSightCells1
set_option linter.unusedVariables false
set_option linter.unusedSimpArgs false
namespace Go.Proofs.YthaeflammjofeaaDoor.Ab
open Go Go.RowKit
attribute [local irreducible] Cnd Bnd Rw CallQ CallR Bts Isn Lc WLoop
set_option maxRecDepth 100000
set_option maxHeartbeats 1000000
theorem F_nearestTo (q r n : Int) (hn : 1 ≤ n ∧ n ≤ 18) (hq : 0 ≤ q ∧ q ≤ 1000) (hr : 0 ≤ r ∧ r ≤ 1000) (hw : q.tmod n = 0 ∨ r.tmod n = 0 ∨ q.tmod n + r.tmod n = n) :
    Fun E0 117 [vI q, vI r, vI n] [] (.v (.one (.own 0 (ptL q r n).length))) [(0, rwH (ptL q r n))] [] := by
  obtain ⟨e1, e1b, e1c, e1d⟩ := dm hq hn.1
  obtain ⟨e2, e2b, e2c, e2d⟩ := dm hr hn.1
  refine Fun_of_xc k117 rfl rfl (nrC (rwH_no _) nrN) ?_
  ((conv=>whnf);repeat((first|refine Ct ‹_› ?_|refine Cf ‹_› ?_|refine Ct rfl ?_|refine Cf rfl ?_|refine Bi rfl ?_|refine Bz rfl ?_|refine Lr ?_);conv=>whnf))
  refine Rw_i (rwH []) (rwH_nil _) ?_
  ((conv=>whnf);repeat((first|refine Ct ‹_› ?_|refine Cf ‹_› ?_|refine Ct rfl ?_|refine Cf rfl ?_|refine Bi rfl ?_|refine Bz rfl ?_|refine Lr ?_);conv=>whnf))
  refine Rw_i (rwH []) (rwH_nil _) ?_
  ((conv=>whnf);repeat((first|refine Ct ‹_› ?_|refine Cf ‹_› ?_|refine Ct rfl ?_|refine Cf rfl ?_|refine Bi rfl ?_|refine Bz rfl ?_|refine Lr ?_);conv=>whnf))
  (refine CallQ_some (F_floorDiv q n hq hn.1) ?_ ?_ ?_; rfl; rfl); ((conv=>whnf);repeat((first|refine Ct ‹_› ?_|refine Cf ‹_› ?_|refine Ct rfl ?_|refine Cf rfl ?_|refine Bi rfl ?_|refine Bz rfl ?_|refine Lr ?_);conv=>whnf))
  refine WLoop_v3 ⟨[0, 1, 2, 7, 8, 9], [], []⟩ (fun (x y : Int) (out : List Hx) => hdS 80 [(0, .v (vI q)), (1, .v (vI r)), (2, .v (vI n)), (7, .v (.one (.own (vkey 7) out.length))), (8, .v (vI y)), (9, .v (vI x))] [] [(vkey 7, rwH out)])
    (fun m x y out => m ≤ 4 ∧ x = q.tdiv n - 1 + (4 - m : Int) ∧ out = (ngN n (q.tmod n) (r.tmod n) (4 * (4 - m))).1.map (sh q r n) ∧ y = (ngN n (q.tmod n) (r.tmod n) (4 * (4 - m))).2) 4 (q.tdiv n - 1) (-1) [] (by rw [wrapI (by omega)]; rfl) ⟨Nat.le_refl _, by omega, rfl, rfl⟩ ?_
  rintro m x y out ⟨m1, m2, m3, m4⟩
  have hol : out.length ≤ 16 := by have := ngN_le n (q.tmod n) (r.tmod n) (4 * (4 - m)); rw [m3, List.length_map]; omega
  ((conv=>whnf);repeat((first|refine Ct ‹_› ?_|refine Cf ‹_› ?_|refine Ct rfl ?_|refine Cf rfl ?_|refine Bi rfl ?_|refine Bz rfl ?_|refine Lr ?_);conv=>whnf))
  (refine CallQ_some (F_floorDiv q n hq hn.1) ?_ ?_ ?_; rfl; rfl); ((conv=>whnf);repeat((first|refine Ct ‹_› ?_|refine Cf ‹_› ?_|refine Ct rfl ?_|refine Cf rfl ?_|refine Bi rfl ?_|refine Bz rfl ?_|refine Lr ?_);conv=>whnf))
  refine Cnd_e (c' := decide (x ≤ q.tdiv n + 2)) (by rw [wrapI (by omega)]) ?_
  refine Cnd_i (fun g => ?_) (fun g => ?_)
  rotate_left
  · have g := of_decide_eq_false g
    obtain rfl : m = 0 := by omega
    ((conv=>whnf);repeat((first|refine Ct ‹_› ?_|refine Cf ‹_› ?_|refine Ct rfl ?_|refine Cf rfl ?_|refine Bi rfl ?_|refine Bz rfl ?_|refine Lr ?_);conv=>whnf))
    have e0 : out = ptL q r n := by rw [m3]; show List.map _ (ngN n (q.tmod n) (r.tmod n) 16).1 = _; rw [near_ok n _ _ hn ⟨e1c, e1d⟩ ⟨e2c, e2d⟩ hw]; rfl
    rw [e0]
    exact ⟨rfl, rfl, rfl⟩
  have hx := of_decide_eq_true g
  obtain ⟨m, rfl⟩ : ∃ m', m = m' + 1 := ⟨m - 1, by omega⟩
  ((conv=>whnf);repeat((first|refine Ct ‹_› ?_|refine Cf ‹_› ?_|refine Ct rfl ?_|refine Cf rfl ?_|refine Bi rfl ?_|refine Bz rfl ?_|refine Lr ?_);conv=>whnf))
  (refine CallQ_some (F_floorDiv r n hr hn.1) ?_ ?_ ?_; rfl; rfl); ((conv=>whnf);repeat((first|refine Ct ‹_› ?_|refine Cf ‹_› ?_|refine Ct rfl ?_|refine Cf rfl ?_|refine Bi rfl ?_|refine Bz rfl ?_|refine Lr ?_);conv=>whnf))
  refine WLoop_v3 ⟨[0, 1, 2, 7, 8, 9, 10], [], []⟩ (fun (z y : Int) (out : List Hx) => hdS 80 [(0, .v (vI q)), (1, .v (vI r)), (2, .v (vI n)), (7, .v (.one (.own (vkey 7) out.length))), (8, .v (vI y)), (9, .v (vI x)), (10, .v (vI z))] [] [(vkey 7, rwH out)])
    (fun l z y out => l ≤ 4 ∧ z = r.tdiv n - 1 + (4 - l : Int) ∧ out = (ngN n (q.tmod n) (r.tmod n) (4 * (3 - m) + (4 - l))).1.map (sh q r n) ∧ y = (ngN n (q.tmod n) (r.tmod n) (4 * (3 - m) + (4 - l))).2) 4 (r.tdiv n - 1) y out (by rw [wrapI (by omega)]; rfl) ⟨Nat.le_refl _, by omega, by rw [m3, show 4 * (4 - (m + 1)) = 4 * (3 - m) + (4 - 4) by omega], by rw [m4, show 4 * (4 - (m + 1)) = 4 * (3 - m) + (4 - 4) by omega]⟩ ?_
  clear m3 m4 hol y out
  rintro l z y out ⟨l1, l2, l3, l4⟩
  have hol : out.length ≤ 16 := by have := ngN_le n (q.tmod n) (r.tmod n) (4 * (3 - m) + (4 - l)); rw [l3, List.length_map]; omega
  ((conv=>whnf);repeat((first|refine Ct ‹_› ?_|refine Cf ‹_› ?_|refine Ct rfl ?_|refine Cf rfl ?_|refine Bi rfl ?_|refine Bz rfl ?_|refine Lr ?_);conv=>whnf))
  (refine CallQ_some (F_floorDiv r n hr hn.1) ?_ ?_ ?_; rfl; rfl); ((conv=>whnf);repeat((first|refine Ct ‹_› ?_|refine Cf ‹_› ?_|refine Ct rfl ?_|refine Cf rfl ?_|refine Bi rfl ?_|refine Bz rfl ?_|refine Lr ?_);conv=>whnf))
  refine Cnd_e (c' := decide (z ≤ r.tdiv n + 2)) (by rw [wrapI (by omega)]) ?_
  refine Cnd_i (fun g => ?_) (fun g => ?_)
  rotate_left
  · have g := of_decide_eq_false g
    obtain rfl : l = 0 := by omega
    ((conv=>whnf);repeat((first|refine Ct ‹_› ?_|refine Cf ‹_› ?_|refine Ct rfl ?_|refine Cf rfl ?_|refine Bi rfl ?_|refine Bz rfl ?_|refine Lr ?_);conv=>whnf))
    refine ⟨m, x + 1, y, out, ?_, by omega, by omega, by omega, by rw [l3, show 4 * (3 - m) + (4 - 0) = 4 * (4 - m) by omega], by rw [l4, show 4 * (3 - m) + (4 - 0) = 4 * (4 - m) by omega]⟩
    rw [wrapI (by omega)]; rfl
  have hz := of_decide_eq_true g
  obtain ⟨l, rfl⟩ : ∃ l', l = l' + 1 := ⟨l - 1, by omega⟩
  have hfar := far_w (x := x) (y := z) (a := 2 - m) (c := 2 - l) hn hq hr (by omega) (by omega) (by omega) (by omega)
  have hst : ngN n (q.tmod n) (r.tmod n) (4 * (3 - m) + (4 - l)) = ngStep n (q.tmod n) (r.tmod n) (ngN n (q.tmod n) (r.tmod n) (4 * (3 - m) + (4 - (l + 1)))) (2 - m) (2 - l) := by
    rw [show 4 * (3 - m) + (4 - l) = 4 * (3 - m) + (4 - (l + 1)) + 1 by omega, ngN]
    congr 1 <;> omega
  have hsh : sh q r n (2 - (m : Int), 2 - (l : Int)) = (x, z) := by
    show (q.tdiv n + (2 - (m : Int)), r.tdiv n + (2 - (l : Int))) = (x, z)
    rw [show q.tdiv n + (2 - (m : Int)) = x by omega, show r.tdiv n + (2 - (l : Int)) = z by omega]
  generalize ngN n (q.tmod n) (r.tmod n) (4 * (3 - m) + (4 - (l + 1))) = s at *
  obtain ⟨so, sl⟩ := s
  have l4 : y = sl := l4
  have l3 : out = so.map (sh q r n) := l3
  subst l4
  unfold ngStep at hst
  dsimp only at hst
  have hnxt : ∀ (out' : List Hx) (y' : Int), out' = (ngN n (q.tmod n) (r.tmod n) (4 * (3 - m) + (4 - l))).1.map (sh q r n) → y' = (ngN n (q.tmod n) (r.tmod n) (4 * (3 - m) + (4 - l))).2 → l < l + 1 ∧ l ≤ 4 ∧ z + 1 = r.tdiv n - 1 + (4 - l : Int) ∧ out' = (ngN n (q.tmod n) (r.tmod n) (4 * (3 - m) + (4 - l))).1.map (sh q r n) ∧ y' = (ngN n (q.tmod n) (r.tmod n) (4 * (3 - m) + (4 - l))).2 :=
    fun out' y' h1 h2 => ⟨by omega, by omega, by omega, h1, h2⟩
  generalize farO n (q.tmod n) (r.tmod n) (2 - m) (2 - l) = far at hfar hst
  ((conv=>whnf);repeat((first|refine Ct ‹_› ?_|refine Cf ‹_› ?_|refine Ct rfl ?_|refine Cf rfl ?_|refine Bi rfl ?_|refine Bz rfl ?_|refine Lr ?_);conv=>whnf))
  have hput : y < 0 ∨ far < y → True := fun _ => trivial
  refine Cnd_i (fun g5 => ?_) (fun g5 => ?_)
  · have d5 := of_decide_eq_true g5
    rw [if_pos (.inl d5)] at hst
    ((conv=>whnf);repeat((first|refine Ct ‹_› ?_|refine Cf ‹_› ?_|refine Ct rfl ?_|refine Cf rfl ?_|refine Bi rfl ?_|refine Bz rfl ?_|refine Lr ?_);conv=>whnf))
    refine Bnd_i (⟨by omega, by omega, by omega⟩) ?_; ((conv=>whnf);repeat((first|refine Ct ‹_› ?_|refine Cf ‹_› ?_|refine Ct rfl ?_|refine Cf rfl ?_|refine Bi rfl ?_|refine Bz rfl ?_|refine Lr ?_);conv=>whnf))
    refine Rw_i (rwH []) ⟨rfl, rfl, rfl, fun i j hi _ => absurd hi (Nat.not_lt_zero _)⟩ ?_
    ((conv=>whnf);repeat((first|refine Ct ‹_› ?_|refine Cf ‹_› ?_|refine Ct rfl ?_|refine Cf rfl ?_|refine Bi rfl ?_|refine Bz rfl ?_|refine Lr ?_);conv=>whnf))
    refine Cnd_t (by simp) ?_
    ((conv=>whnf);repeat((first|refine Ct ‹_› ?_|refine Cf ‹_› ?_|refine Ct rfl ?_|refine Cf rfl ?_|refine Bi rfl ?_|refine Bz rfl ?_|refine Lr ?_);conv=>whnf))
    refine Rw_self ?_
    ((conv=>whnf);repeat((first|refine Ct ‹_› ?_|refine Cf ‹_› ?_|refine Ct rfl ?_|refine Cf rfl ?_|refine Bi rfl ?_|refine Bz rfl ?_|refine Lr ?_);conv=>whnf))
    refine Bnd_i (by show 0 + 1 < _; omega) ?_
    ((conv=>whnf);repeat((first|refine Ct ‹_› ?_|refine Cf ‹_› ?_|refine Ct rfl ?_|refine Cf rfl ?_|refine Bi rfl ?_|refine Bz rfl ?_|refine Lr ?_);conv=>whnf))
    refine Rw_i (rwH [(x, z)]) (rwH_app [] (x, z) _ (lt2 rfl rfl)) ?_
    ((conv=>whnf);repeat((first|refine Ct ‹_› ?_|refine Cf ‹_› ?_|refine Ct rfl ?_|refine Cf rfl ?_|refine Bi rfl ?_|refine Bz rfl ?_|refine Lr ?_);conv=>whnf))
    refine ⟨l, z + 1, far, [(x, z)], ?_, hnxt _ _ (by rw [hst, List.map_singleton, hsh]) (by rw [hst])⟩
    rw [hfar, wrapI (n := z + 1) (by omega)]; rfl
  · have d5 := of_decide_eq_false g5
    ((conv=>whnf);repeat((first|refine Ct ‹_› ?_|refine Cf ‹_› ?_|refine Ct rfl ?_|refine Cf rfl ?_|refine Bi rfl ?_|refine Bz rfl ?_|refine Lr ?_);conv=>whnf))
    refine Cnd_e (c' := decide (far < y)) (by rw [hfar]) ?_
    refine Cnd_i (fun g6 => ?_) (fun g6 => ?_)
    · have d6 := of_decide_eq_true g6
      rw [if_pos (.inr d6)] at hst
      ((conv=>whnf);repeat((first|refine Ct ‹_› ?_|refine Cf ‹_› ?_|refine Ct rfl ?_|refine Cf rfl ?_|refine Bi rfl ?_|refine Bz rfl ?_|refine Lr ?_);conv=>whnf))
      refine Bnd_i (⟨by omega, by omega, by omega⟩) ?_; ((conv=>whnf);repeat((first|refine Ct ‹_› ?_|refine Cf ‹_› ?_|refine Ct rfl ?_|refine Cf rfl ?_|refine Bi rfl ?_|refine Bz rfl ?_|refine Lr ?_);conv=>whnf))
      refine Rw_i (rwH []) ⟨rfl, rfl, rfl, fun i j hi _ => absurd hi (Nat.not_lt_zero _)⟩ ?_
      ((conv=>whnf);repeat((first|refine Ct ‹_› ?_|refine Cf ‹_› ?_|refine Ct rfl ?_|refine Cf rfl ?_|refine Bi rfl ?_|refine Bz rfl ?_|refine Lr ?_);conv=>whnf))
      refine Cnd_t (by simp) ?_
      ((conv=>whnf);repeat((first|refine Ct ‹_› ?_|refine Cf ‹_› ?_|refine Ct rfl ?_|refine Cf rfl ?_|refine Bi rfl ?_|refine Bz rfl ?_|refine Lr ?_);conv=>whnf))
      refine Rw_self ?_
      ((conv=>whnf);repeat((first|refine Ct ‹_› ?_|refine Cf ‹_› ?_|refine Ct rfl ?_|refine Cf rfl ?_|refine Bi rfl ?_|refine Bz rfl ?_|refine Lr ?_);conv=>whnf))
      refine Bnd_i (by show 0 + 1 < _; omega) ?_
      ((conv=>whnf);repeat((first|refine Ct ‹_› ?_|refine Cf ‹_› ?_|refine Ct rfl ?_|refine Cf rfl ?_|refine Bi rfl ?_|refine Bz rfl ?_|refine Lr ?_);conv=>whnf))
      refine Rw_i (rwH [(x, z)]) (rwH_app [] (x, z) _ (lt2 rfl rfl)) ?_
      ((conv=>whnf);repeat((first|refine Ct ‹_› ?_|refine Cf ‹_› ?_|refine Ct rfl ?_|refine Cf rfl ?_|refine Bi rfl ?_|refine Bz rfl ?_|refine Lr ?_);conv=>whnf))
      refine ⟨l, z + 1, far, [(x, z)], ?_, hnxt _ _ (by rw [hst, List.map_singleton, hsh]) (by rw [hst])⟩
      rw [hfar, wrapI (n := z + 1) (by omega)]; rfl
    · have d6 := of_decide_eq_false g6
      rw [if_neg (by omega)] at hst
      ((conv=>whnf);repeat((first|refine Ct ‹_› ?_|refine Cf ‹_› ?_|refine Ct rfl ?_|refine Cf rfl ?_|refine Bi rfl ?_|refine Bz rfl ?_|refine Lr ?_);conv=>whnf))
      refine Cnd_e (c' := far == y) (by rw [hfar]) ?_
      refine Cnd_i (fun g7 => ?_) (fun g7 => ?_)
      · have d7 : far = y := by simpa using g7
        rw [if_pos d7] at hst
        ((conv=>whnf);repeat((first|refine Ct ‹_› ?_|refine Cf ‹_› ?_|refine Ct rfl ?_|refine Cf rfl ?_|refine Bi rfl ?_|refine Bz rfl ?_|refine Lr ?_);conv=>whnf))
        refine Rw_self ?_
        ((conv=>whnf);repeat((first|refine Ct ‹_› ?_|refine Cf ‹_› ?_|refine Ct rfl ?_|refine Cf rfl ?_|refine Bi rfl ?_|refine Bz rfl ?_|refine Lr ?_);conv=>whnf))
        refine Bnd_i ?_ ?_
        · show out.length + 1 < _
          omega
        ((conv=>whnf);repeat((first|refine Ct ‹_› ?_|refine Cf ‹_› ?_|refine Ct rfl ?_|refine Cf rfl ?_|refine Bi rfl ?_|refine Bz rfl ?_|refine Lr ?_);conv=>whnf))
        refine Rw_i (rwH (out ++ [(x, z)])) (rwH_app _ (x, z) _ (lt2 (by show cI _ = cI _; rfl) (by show cI _ = cI _; rfl))) ?_
        ((conv=>whnf);repeat((first|refine Ct ‹_› ?_|refine Cf ‹_› ?_|refine Ct rfl ?_|refine Cf rfl ?_|refine Bi rfl ?_|refine Bz rfl ?_|refine Lr ?_);conv=>whnf))
        refine ⟨l, z + 1, y, out ++ [(x, z)], ?_, hnxt _ _ (by rw [hst, l3, List.map_append, List.map_singleton, hsh]) (by rw [hst])⟩
        rw [wrapI (by omega)]; rfl
      · have d7 : ¬ far = y := by simpa using g7
        rw [if_neg d7] at hst
        ((conv=>whnf);repeat((first|refine Ct ‹_› ?_|refine Cf ‹_› ?_|refine Ct rfl ?_|refine Cf rfl ?_|refine Bi rfl ?_|refine Bz rfl ?_|refine Lr ?_);conv=>whnf))
        refine ⟨l, z + 1, y, out, ?_, hnxt _ _ (by rw [hst, l3]) (by rw [hst])⟩
        rw [wrapI (by omega)]; rfl

/-- the line from a to b -/
def lnL (aq ar bq br : Int) : List (List Hx) := if dsH aq ar bq br = 0 then [[(aq, ar)]] else (List.range ((dsH aq ar bq br).toNat + 1)).map fun i : Nat => lcL aq ar bq br i

theorem lnL_len {aq ar bq br : Int} (ha : HxB aq ar) (hb : HxB bq br) : (lnL aq ar bq br).length = (dsH aq ar bq br).toNat + 1 ∧ (lnL aq ar bq br).length ≤ 19 := by
  have h := dsH_b ha hb
  unfold lnL
  split
  · rename_i h0; rw [h0]; simp
  · simp; omega

theorem range_succ' {α : Type} (f : Nat → α) (t : Int) (h0 : 0 ≤ t) : (List.range (t + 1).toNat).map f = (List.range t.toNat).map f ++ [f t.toNat] := by
  rw [show (t + 1).toNat = t.toNat + 1 by omega, List.range_succ, List.map_append]; rfl

theorem one_hex (a c : Int) : RowEq (litRow false 2 [[cI a, cI c]]) (rwH [(a, c)]) := by
  refine ⟨rfl, rfl, rfl, fun i j hi hj => ?_⟩
  have hi : i < 1 := hi
  obtain rfl : i = 0 := by omega
  rfl

theorem one_row (l : List Hx) : RowEq ⟨true, 1, 1, fun _ _ => .fr 2 l.length fun i j => nth (hxC (l.getD i (0, 0))) j⟩ (rwHH [l]) := by
  refine ⟨rfl, rfl, rfl, fun i j hi hj => ?_⟩
  have hi : i < 1 := hi
  obtain rfl : i = 0 := by omega
  rfl

theorem F_hLine (aq ar bq br : Int) (ha : HxB aq ar) (hb : HxB bq br) :
    Fun E0 80 [.agg [cI aq, cI ar], .agg [cI bq, cI br]] [] (.v (.one (.own 0 (lnL aq ar bq br).length))) [(0, rwHH (lnL aq ar bq br))] [] := by
  have h18 := dsH_b ha hb
  refine Fun_of_xc k80 rfl rfl (nrC (rwHH_no _) nrN) ?_
  ((conv=>whnf);repeat((first|refine Ct ‹_› ?_|refine Cf ‹_› ?_|refine Ct rfl ?_|refine Cf rfl ?_|refine Bi rfl ?_|refine Bz rfl ?_|refine Lr ?_);conv=>whnf))
  refine Rw_i (rwHH []) (rwHH_nil _) ?_
  ((conv=>whnf);repeat((first|refine Ct ‹_› ?_|refine Cf ‹_› ?_|refine Ct rfl ?_|refine Cf rfl ?_|refine Bi rfl ?_|refine Bz rfl ?_|refine Lr ?_);conv=>whnf))
  (refine CallQ_some (F_hDistance aq ar bq br ha hb) ?_ ?_ ?_; rfl; rfl); ((conv=>whnf);repeat((first|refine Ct ‹_› ?_|refine Cf ‹_› ?_|refine Ct rfl ?_|refine Cf rfl ?_|refine Bi rfl ?_|refine Bz rfl ?_|refine Lr ?_);conv=>whnf))
  refine Cnd_i (fun g => ?_) (fun g => ?_)
  · have h0 : dsH aq ar bq br = 0 := by simpa using g
    ((conv=>whnf);repeat((first|refine Ct ‹_› ?_|refine Cf ‹_› ?_|refine Ct rfl ?_|refine Cf rfl ?_|refine Bi rfl ?_|refine Bz rfl ?_|refine Lr ?_);conv=>whnf))
    refine Rw_i (rwH [(aq, ar)]) (one_hex _ _) ?_
    ((conv=>whnf);repeat((first|refine Ct ‹_› ?_|refine Cf ‹_› ?_|refine Ct rfl ?_|refine Cf rfl ?_|refine Bi rfl ?_|refine Bz rfl ?_|refine Lr ?_);conv=>whnf))
    refine Rw_i (rwHH [[(aq, ar)]]) (one_row _) ?_
    ((conv=>whnf);repeat((first|refine Ct ‹_› ?_|refine Cf ‹_› ?_|refine Ct rfl ?_|refine Cf rfl ?_|refine Bi rfl ?_|refine Bz rfl ?_|refine Lr ?_);conv=>whnf))
    rw [lnL, if_pos h0]
    exact ⟨rfl, rfl, rfl⟩
  have h0 : dsH aq ar bq br ≠ 0 := by simpa using g
  have hn : 1 ≤ dsH aq ar bq br := by omega
  ((conv=>whnf);repeat((first|refine Ct ‹_› ?_|refine Cf ‹_› ?_|refine Ct rfl ?_|refine Cf rfl ?_|refine Bi rfl ?_|refine Bz rfl ?_|refine Lr ?_);conv=>whnf))
  refine Rw_i (rwHH []) (rwHH_nil _) ?_
  ((conv=>whnf);repeat((first|refine Ct ‹_› ?_|refine Cf ‹_› ?_|refine Ct rfl ?_|refine Cf rfl ?_|refine Bi rfl ?_|refine Bz rfl ?_|refine Lr ?_);conv=>whnf))
  refine WLoop_v2 ⟨[2, 3, 5, 6, 7], [2, 3], []⟩ (fun (t : Int) (out : List (List Hx)) => hdS 30 [(2, .v (.one (.box 2 0))), (3, .v (.one (.box 3 0))), (5, .v (vI (dsH aq ar bq br))), (6, .v (.one (.own (vkey 6) out.length))), (7, .v (vI t))] [(2, [cI aq, cI ar]), (3, [cI bq, cI br])] [(vkey 6, rwHH out)])
    (fun n t out => 0 ≤ t ∧ t + n = dsH aq ar bq br + 1 ∧ out = (List.range t.toNat).map fun i : Nat => lcL aq ar bq br i) ((dsH aq ar bq br).toNat + 1) 0 [] rfl ⟨by omega, by omega, rfl⟩ ?_
  rintro n t out ⟨t1, t2, t3⟩
  have hol : out.length ≤ 19 := by rw [t3, List.length_map, List.length_range]; omega
  ((conv=>whnf);repeat((first|refine Ct ‹_› ?_|refine Cf ‹_› ?_|refine Ct rfl ?_|refine Cf rfl ?_|refine Bi rfl ?_|refine Bz rfl ?_|refine Lr ?_);conv=>whnf))
  refine Cnd_i (fun g => ?_) (fun g => ?_)
  · have ht := of_decide_eq_true g
    ((conv=>whnf);repeat((first|refine Ct ‹_› ?_|refine Cf ‹_› ?_|refine Ct rfl ?_|refine Cf rfl ?_|refine Bi rfl ?_|refine Bz rfl ?_|refine Lr ?_);conv=>whnf))
    (refine CallQ_some (F_hCells aq ar bq br t _ ha hb rfl hn (by omega)) ?_ ?_ ?_; rfl; rfl); ((conv=>whnf);repeat((first|refine Ct ‹_› ?_|refine Cf ‹_› ?_|refine Ct rfl ?_|refine Cf rfl ?_|refine Bi rfl ?_|refine Bz rfl ?_|refine Lr ?_);conv=>whnf))
    refine Rw_self ?_
    ((conv=>whnf);repeat((first|refine Ct ‹_› ?_|refine Cf ‹_› ?_|refine Ct rfl ?_|refine Cf rfl ?_|refine Bi rfl ?_|refine Bz rfl ?_|refine Lr ?_);conv=>whnf))
    refine Bnd_i ?_ ?_
    · show out.length + 1 < _
      omega
    ((conv=>whnf);repeat((first|refine Ct ‹_› ?_|refine Cf ‹_› ?_|refine Ct rfl ?_|refine Cf rfl ?_|refine Bi rfl ?_|refine Bz rfl ?_|refine Lr ?_);conv=>whnf))
    refine Rw_i (rwHH (out ++ [lcL aq ar bq br t])) (rwHH_app _ _ _ rfl) ?_
    ((conv=>whnf);repeat((first|refine Ct ‹_› ?_|refine Cf ‹_› ?_|refine Ct rfl ?_|refine Cf rfl ?_|refine Bi rfl ?_|refine Bz rfl ?_|refine Lr ?_);conv=>whnf))
    refine ⟨n - 1, t + 1, out ++ [lcL aq ar bq br t], ?_, by omega, by omega, by omega, ?_⟩
    · rw [wrapI (by omega)]; rfl
    · rw [range_succ' _ t t1, ← t3, show ((t.toNat : Nat) : Int) = t by omega]
  · have ht := of_decide_eq_false g
    ((conv=>whnf);repeat((first|refine Ct ‹_› ?_|refine Cf ‹_› ?_|refine Ct rfl ?_|refine Cf rfl ?_|refine Bi rfl ?_|refine Bz rfl ?_|refine Lr ?_);conv=>whnf))
    rw [lnL, if_neg h0, t3, show t.toNat = (dsH aq ar bq br).toNat + 1 by omega]
    exact ⟨rfl, rfl, rfl⟩

theorem F_lineOf (aq ar bq br : Int) (ha : HxB aq ar) (hb : HxB bq br) :
    Fun E0 84 [.agg [cI aq, cI ar], .agg [cI bq, cI br]] [] (.v (.one (.own 0 (lnL aq ar bq br).length))) [(0, rwHH (lnL aq ar bq br))] [] := by
  have h18 := dsH_b ha hb
  refine Fun_of_xc k84 rfl rfl (nrC (rwHH_no _) nrN) ?_
  ((conv=>whnf);repeat((first|refine Ct ‹_› ?_|refine Cf ‹_› ?_|refine Ct rfl ?_|refine Cf rfl ?_|refine Bi rfl ?_|refine Bz rfl ?_|refine Lr ?_);conv=>whnf))
  refine Rw_i (rwHH []) (rwHH_nil _) ?_
  ((conv=>whnf);repeat((first|refine Ct ‹_› ?_|refine Cf ‹_› ?_|refine Ct rfl ?_|refine Cf rfl ?_|refine Bi rfl ?_|refine Bz rfl ?_|refine Lr ?_);conv=>whnf))
  (refine CallQ_some (F_distance aq ar bq br ha hb) ?_ ?_ ?_; rfl; rfl); ((conv=>whnf);repeat((first|refine Ct ‹_› ?_|refine Cf ‹_› ?_|refine Ct rfl ?_|refine Cf rfl ?_|refine Bi rfl ?_|refine Bz rfl ?_|refine Lr ?_);conv=>whnf))
  refine Cnd_i (fun g => ?_) (fun g => ?_)
  · have h0 : dsH aq ar bq br = 0 := by simpa using g
    ((conv=>whnf);repeat((first|refine Ct ‹_› ?_|refine Cf ‹_› ?_|refine Ct rfl ?_|refine Cf rfl ?_|refine Bi rfl ?_|refine Bz rfl ?_|refine Lr ?_);conv=>whnf))
    refine Rw_i (rwH [(aq, ar)]) (one_hex _ _) ?_
    ((conv=>whnf);repeat((first|refine Ct ‹_› ?_|refine Cf ‹_› ?_|refine Ct rfl ?_|refine Cf rfl ?_|refine Bi rfl ?_|refine Bz rfl ?_|refine Lr ?_);conv=>whnf))
    refine Rw_i (rwHH [[(aq, ar)]]) (one_row _) ?_
    ((conv=>whnf);repeat((first|refine Ct ‹_› ?_|refine Cf ‹_› ?_|refine Ct rfl ?_|refine Cf rfl ?_|refine Bi rfl ?_|refine Bz rfl ?_|refine Lr ?_);conv=>whnf))
    rw [lnL, if_pos h0]
    exact ⟨rfl, rfl, rfl⟩
  have h0 : dsH aq ar bq br ≠ 0 := by simpa using g
  have hn : 1 ≤ dsH aq ar bq br := by omega
  ((conv=>whnf);repeat((first|refine Ct ‹_› ?_|refine Cf ‹_› ?_|refine Ct rfl ?_|refine Cf rfl ?_|refine Bi rfl ?_|refine Bz rfl ?_|refine Lr ?_);conv=>whnf))
  refine Rw_i (rwHH []) (rwHH_nil _) ?_
  ((conv=>whnf);repeat((first|refine Ct ‹_› ?_|refine Cf ‹_› ?_|refine Ct rfl ?_|refine Cf rfl ?_|refine Bi rfl ?_|refine Bz rfl ?_|refine Lr ?_);conv=>whnf))
  refine WLoop_v2 ⟨[2, 3, 5, 6, 7], [2, 3], []⟩ (fun (t : Int) (out : List (List Hx)) => hdS 52 [(2, .v (.one (.box 2 0))), (3, .v (.one (.box 3 0))), (5, .v (vI (dsH aq ar bq br))), (6, .v (.one (.own (vkey 6) out.length))), (7, .v (vI t))] [(2, [cI aq, cI ar]), (3, [cI bq, cI br])] [(vkey 6, rwHH out)])
    (fun n t out => 0 ≤ t ∧ t + n = dsH aq ar bq br + 1 ∧ out = (List.range t.toNat).map fun i : Nat => lcL aq ar bq br i) ((dsH aq ar bq br).toNat + 1) 0 [] rfl ⟨by omega, by omega, rfl⟩ ?_
  rintro n t out ⟨t1, t2, t3⟩
  have hol : out.length ≤ 19 := by rw [t3, List.length_map, List.length_range]; omega
  ((conv=>whnf);repeat((first|refine Ct ‹_› ?_|refine Cf ‹_› ?_|refine Ct rfl ?_|refine Cf rfl ?_|refine Bi rfl ?_|refine Bz rfl ?_|refine Lr ?_);conv=>whnf))
  refine Cnd_i (fun g => ?_) (fun g => ?_)
  · have ht := of_decide_eq_true g
    ((conv=>whnf);repeat((first|refine Ct ‹_› ?_|refine Cf ‹_› ?_|refine Ct rfl ?_|refine Cf rfl ?_|refine Bi rfl ?_|refine Bz rfl ?_|refine Lr ?_);conv=>whnf))
    have q1 := lnQ_b ha.q hb.q (i := t) (n := dsH aq ar bq br) (by omega) (by omega)
    have r1 := lnQ_b ha.r hb.r (i := t) (n := dsH aq ar bq br) (by omega) (by omega)
    refine CallQ_eq (show _ = [vI (lnQ aq bq t (dsH aq ar bq br)), vI (lnQ ar br t (dsH aq ar bq br)), vI (dsH aq ar bq br)] by rw [lnQ_w2 ha.q hb.q (by omega) (by omega), lnQ_w2 ha.r hb.r (by omega) (by omega)]) ?_
    (refine CallQ_some (F_nearestTo _ _ _ (by omega) (by omega) (by omega) (ln_whole ha hb (by omega) hn)) ?_ ?_ ?_; rfl; rfl); ((conv=>whnf);repeat((first|refine Ct ‹_› ?_|refine Cf ‹_› ?_|refine Ct rfl ?_|refine Cf rfl ?_|refine Bi rfl ?_|refine Bz rfl ?_|refine Lr ?_);conv=>whnf))
    rw [← show lcL aq ar bq br t = ptL (lnQ aq bq t (dsH aq ar bq br)) (lnQ ar br t (dsH aq ar bq br)) (dsH aq ar bq br) from rfl]
    refine Rw_self ?_
    ((conv=>whnf);repeat((first|refine Ct ‹_› ?_|refine Cf ‹_› ?_|refine Ct rfl ?_|refine Cf rfl ?_|refine Bi rfl ?_|refine Bz rfl ?_|refine Lr ?_);conv=>whnf))
    refine Bnd_i ?_ ?_
    · show out.length + 1 < _
      omega
    ((conv=>whnf);repeat((first|refine Ct ‹_› ?_|refine Cf ‹_› ?_|refine Ct rfl ?_|refine Cf rfl ?_|refine Bi rfl ?_|refine Bz rfl ?_|refine Lr ?_);conv=>whnf))
    refine Rw_i (rwHH (out ++ [lcL aq ar bq br t])) (rwHH_app _ _ _ rfl) ?_
    ((conv=>whnf);repeat((first|refine Ct ‹_› ?_|refine Cf ‹_› ?_|refine Ct rfl ?_|refine Cf rfl ?_|refine Bi rfl ?_|refine Bz rfl ?_|refine Lr ?_);conv=>whnf))
    refine ⟨n - 1, t + 1, out ++ [lcL aq ar bq br t], ?_, by omega, by omega, by omega, ?_⟩
    · rw [wrapI (by omega)]; rfl
    · rw [range_succ' _ t t1, ← t3, show ((t.toNat : Nat) : Int) = t by omega]
  · have ht := of_decide_eq_false g
    ((conv=>whnf);repeat((first|refine Ct ‹_› ?_|refine Cf ‹_› ?_|refine Ct rfl ?_|refine Cf rfl ?_|refine Bi rfl ?_|refine Bz rfl ?_|refine Lr ?_);conv=>whnf))
    rw [lnL, if_neg h0, t3, show t.toNat = (dsH aq ar bq br).toNat + 1 by omega]
    exact ⟨rfl, rfl, rfl⟩

/-- a place of a map, as its indices -/
theorem hx_b {m : Map} (h : WH m) {i : Int} (h0 : 0 ≤ i) (h1 : i < m.w * m.h) : HxB (i.tmod m.w) (i.tdiv m.w) := by
  have hw := h.w1; have hw2 := h.w2; have hh2 := h.h2; have hm := h.mul
  have h3 := tdiv_b (i := i) (w := m.w) h0 (by omega) hw
  refine ⟨⟨h3.2.2.1, by omega⟩, h3.1, ?_⟩
  have h4 := Int.mul_tdiv_add_tmod i m.w
  by_cases e : i.tdiv m.w ≤ 9
  · exact e
  · have h5 : m.w * 10 ≤ m.w * i.tdiv m.w := Int.mul_le_mul_of_nonneg_left (by omega) (by omega)
    have h6 : m.w * m.h ≤ m.w * 10 := Int.mul_le_mul_of_nonneg_left hh2 (by omega)
    omega

def lnM (m : Map) (i k : Int) : List (List Hx) := lnL (i.tmod m.w) (i.tdiv m.w) (k.tmod m.w) (k.tdiv m.w)

/-- the places between two places of a map -/
def ceL (m : Map) (i k : Int) : List (List Int) := (List.range ((lnM m i k).length - 2)).map fun t : Nat => ((lnM m i k).getD (t + 1) []).map fun p => ix m p.1 p.2

theorem lnM_sub {m : Map} (h : WH m) {i k : Int} (hi : 0 ≤ i ∧ i < m.w * m.h) (hk : 0 ≤ k ∧ k < m.w * m.h) : 1 ≤ (lnM m i k).length ∧ (lnM m i k).length ≤ 19 ∧ ∀ l ∈ lnM m i k, l.length ≤ 2 := by
  have h1 := lnL_len (hx_b h hi.1 hi.2) (hx_b h hk.1 hk.2)
  refine ⟨by show 1 ≤ (lnL _ _ _ _).length; omega, h1.2, fun l hl => ?_⟩
  unfold lnM lnL at hl
  split at hl
  · simp at hl; rw [hl]; simp
  · obtain ⟨_, _, he⟩ := List.mem_map.1 hl
    rw [← he]; exact ptL_len _ _ _

theorem ceL_len {m : Map} (h : WH m) {i k : Int} (hi : 0 ≤ i ∧ i < m.w * m.h) (hk : 0 ≤ k ∧ k < m.w * m.h) : (ceL m i k).length ≤ 17 ∧ ∀ l ∈ ceL m i k, l.length ≤ 2 := by
  have h1 := lnM_sub h hi hk
  constructor
  · unfold ceL
    rw [List.length_map, List.length_range]
    omega
  · intro l hl
    obtain ⟨t, ht, rfl⟩ := List.mem_map.1 hl
    rw [List.length_map]
    have ht := List.mem_range.1 ht
    exact h1.2.2 _ (by have := getD_memT (l := lnM m i k) (d := []) (i := ((t + 1 : Nat) : Int)) (by omega) (by omega); exact this)

theorem F_vCells (b : Brd) (h : GB b) (i k : Int) (hi : 0 ≤ i ∧ i < b.m.ter.length) (hk : 0 ≤ k ∧ k < b.m.ter.length) :
    Fun E0 42 [.agg b.cs, vI i, vI k] [] (.v (.one (.own 0 (ceL b.m i k).length))) [(0, rwLL (ceL b.m i k))] [] := by
  have hm := h.wh.mul
  have hn := h.n
  have hs := lnM_sub h.wh (i := i) (k := k) (by omega) (by omega)
  have bi := hx_b h.wh (i := i) hi.1 (by omega)
  have bk := hx_b h.wh (i := k) hk.1 (by omega)
  have hc := ceL_len h.wh (i := i) (k := k) (by omega) (by omega)
  refine Fun_of_xc k42 rfl rfl (nrC (rwLL_no _) nrN) ?_
  ((conv=>whnf);repeat((first|refine Ct ‹_› ?_|refine Cf ‹_› ?_|refine Ct rfl ?_|refine Cf rfl ?_|refine Bi rfl ?_|refine Bz rfl ?_|refine Lr ?_);conv=>whnf))
  refine Rw_i (rwLL []) (rwLL_nil _) ?_
  ((conv=>whnf);repeat((first|refine Ct ‹_› ?_|refine Cf ‹_› ?_|refine Ct rfl ?_|refine Cf rfl ?_|refine Bi rfl ?_|refine Bz rfl ?_|refine Lr ?_);conv=>whnf))
  (refine CallQ_some (F_mHex b.m h.wh i hi.1 (by omega)) ?_ ?_ ?_; rfl; rfl); ((conv=>whnf);repeat((first|refine Ct ‹_› ?_|refine Cf ‹_› ?_|refine Ct rfl ?_|refine Cf rfl ?_|refine Bi rfl ?_|refine Bz rfl ?_|refine Lr ?_);conv=>whnf))
  (refine CallQ_some (F_mHex b.m h.wh k hk.1 (by omega)) ?_ ?_ ?_; rfl; rfl); ((conv=>whnf);repeat((first|refine Ct ‹_› ?_|refine Cf ‹_› ?_|refine Ct rfl ?_|refine Cf rfl ?_|refine Bi rfl ?_|refine Bz rfl ?_|refine Lr ?_);conv=>whnf))
  (refine CallQ_some (F_hLine _ _ _ _ bi bk) ?_ ?_ ?_; rfl; rfl); ((conv=>whnf);repeat((first|refine Ct ‹_› ?_|refine Cf ‹_› ?_|refine Ct rfl ?_|refine Cf rfl ?_|refine Bi rfl ?_|refine Bz rfl ?_|refine Lr ?_);conv=>whnf))
  refine Rw_i (rwLL []) (rwLL_nil _) ?_
  ((conv=>whnf);repeat((first|refine Ct ‹_› ?_|refine Cf ‹_› ?_|refine Ct rfl ?_|refine Cf rfl ?_|refine Bi rfl ?_|refine Bz rfl ?_|refine Lr ?_);conv=>whnf))
  have hce : ceL b.m i k = (List.range ((lnM b.m i k).length - 2)).map fun t : Nat => ((lnM b.m i k).getD (t + 1) []).map fun p => ix b.m p.1 p.2 := rfl
  rw [hce]
  rw [← show lnM b.m i k = lnL (i.tmod b.m.w) (i.tdiv b.m.w) (k.tmod b.m.w) (k.tdiv b.m.w) from rfl]
  generalize lnM b.m i k = L at hs ⊢
  clear hce hc
  obtain ⟨s1, s2, s3⟩ := hs
  refine WLoop_v2 ⟨[3, 7, 8, 9], [3], []⟩ (fun (t : Int) (out : List (List Int)) => hdS 51 [(3, .v (.one (.box 3 0))), (7, .v (.one (.own (vkey 7) L.length))), (8, .v (.one (.own (vkey 8) out.length))), (9, .v (vI t))] [(3, b.cs)] [(vkey 7, rwHH L), (vkey 8, rwLL out)])
    (fun n t out => 1 ≤ t ∧ t - 1 + n = ((L.length - 2 : Nat) : Int) ∧ out = (List.range (t - 1).toNat).map fun t : Nat => (L.getD (t + 1) []).map fun p => ix b.m p.1 p.2) (L.length - 2) 1 [] rfl ⟨by omega, by omega, rfl⟩ ?_
  rintro n t out ⟨t1, t2, t3⟩
  have hol : out.length ≤ 19 := by rw [t3, List.length_map, List.length_range]; omega
  ((conv=>whnf);repeat((first|refine Ct ‹_› ?_|refine Cf ‹_› ?_|refine Ct rfl ?_|refine Cf rfl ?_|refine Bi rfl ?_|refine Bz rfl ?_|refine Lr ?_);conv=>whnf))
  refine Cnd_e (c' := decide (t < (L.length : Int) - 1)) (by rw [wrapI (by omega)]) ?_
  refine Cnd_i (fun g => ?_) (fun g => ?_)
  rotate_left
  · have ht := of_decide_eq_false g
    ((conv=>whnf);repeat((first|refine Ct ‹_› ?_|refine Cf ‹_› ?_|refine Ct rfl ?_|refine Cf rfl ?_|refine Bi rfl ?_|refine Bz rfl ?_|refine Lr ?_);conv=>whnf))
    rw [t3, show (t - 1).toNat = L.length - 2 by omega]
    exact ⟨rfl, rfl, rfl⟩
  have ht := of_decide_eq_true g
  have hl2 : (L.getD t.toNat []).length ≤ 2 := s3 _ (getD_memT (d := []) (by omega) (by omega))
  ((conv=>whnf);repeat((first|refine Ct ‹_› ?_|refine Cf ‹_› ?_|refine Ct rfl ?_|refine Cf rfl ?_|refine Bi rfl ?_|refine Bz rfl ?_|refine Lr ?_);conv=>whnf))
  refine Rw_i (rwI []) (rwI_nil _) ?_
  ((conv=>whnf);repeat((first|refine Ct ‹_› ?_|refine Cf ‹_› ?_|refine Ct rfl ?_|refine Cf rfl ?_|refine Bi rfl ?_|refine Bz rfl ?_|refine Lr ?_);conv=>whnf))
  refine Bnd_i (⟨by omega, by omega⟩) ?_; ((conv=>whnf);repeat((first|refine Ct ‹_› ?_|refine Cf ‹_› ?_|refine Ct rfl ?_|refine Cf rfl ?_|refine Bi rfl ?_|refine Bz rfl ?_|refine Lr ?_);conv=>whnf))
  refine WLoop_v2 ⟨[3, 7, 8, 9, 10, 33, 34], [3], [(32, 7)]⟩ (fun (j : Int) (cell : List Int) => hdS 51 [(3, .v (.one (.box 3 0))), (7, .v (.one (.own (vkey 7) L.length))), (8, .v (.one (.own (vkey 8) out.length))), (9, .v (vI t)), (10, .v (.one (.own (vkey 10) cell.length))), (32, .v (.one (.own1 (vkey 7) t.toNat 0 (L.getD t.toNat []).length))), (33, .v (vI (L.getD t.toNat []).length)), (34, .v (vI j))] [(3, b.cs)] [(vkey 7, rwHH L), (vkey 8, rwLL out), (vkey 10, rwI cell)])
    (fun n j cell => 0 ≤ j ∧ j + n = (L.getD t.toNat []).length ∧ cell = ((L.getD t.toNat []).take j.toNat).map fun p => ix b.m p.1 p.2) (L.getD t.toNat []).length 0 [] rfl ⟨by omega, by omega, rfl⟩ ?_
  rintro l j cell ⟨j1, j2, j3⟩
  have hcl : cell.length ≤ 2 := by rw [j3, List.length_map, List.length_take]; omega
  ((conv=>whnf);repeat((first|refine Ct ‹_› ?_|refine Cf ‹_› ?_|refine Ct rfl ?_|refine Cf rfl ?_|refine Bi rfl ?_|refine Bz rfl ?_|refine Lr ?_);conv=>whnf))
  refine Cnd_i (fun g2 => ?_) (fun g2 => ?_)
  · have hj := of_decide_eq_true g2
    ((conv=>whnf);repeat((first|refine Ct ‹_› ?_|refine Cf ‹_› ?_|refine Ct rfl ?_|refine Cf rfl ?_|refine Bi rfl ?_|refine Bz rfl ?_|refine Lr ?_);conv=>whnf))
    refine Bnd_i (⟨j1, hj⟩) ?_; ((conv=>whnf);repeat((first|refine Ct ‹_› ?_|refine Cf ‹_› ?_|refine Ct rfl ?_|refine Cf rfl ?_|refine Bi rfl ?_|refine Bz rfl ?_|refine Lr ?_);conv=>whnf))
    (refine CallQ_some (F_mIndex b.m h.wh _ _) ?_ ?_ ?_; rfl; rfl); ((conv=>whnf);repeat((first|refine Ct ‹_› ?_|refine Cf ‹_› ?_|refine Ct rfl ?_|refine Cf rfl ?_|refine Bi rfl ?_|refine Bz rfl ?_|refine Lr ?_);conv=>whnf))
    refine Rw_self ?_
    ((conv=>whnf);repeat((first|refine Ct ‹_› ?_|refine Cf ‹_› ?_|refine Ct rfl ?_|refine Cf rfl ?_|refine Bi rfl ?_|refine Bz rfl ?_|refine Lr ?_);conv=>whnf))
    refine Bnd_i ?_ ?_
    · show cell.length + 1 < _
      omega
    ((conv=>whnf);repeat((first|refine Ct ‹_› ?_|refine Cf ‹_› ?_|refine Ct rfl ?_|refine Cf rfl ?_|refine Bi rfl ?_|refine Bz rfl ?_|refine Lr ?_);conv=>whnf))
    refine Rw_i (rwI (cell ++ [ix b.m ((L.getD t.toNat []).getD j.toNat (0, 0)).1 ((L.getD t.toNat []).getD j.toNat (0, 0)).2])) (rwI_app _ _ _ rfl) ?_
    ((conv=>whnf);repeat((first|refine Ct ‹_› ?_|refine Cf ‹_› ?_|refine Ct rfl ?_|refine Cf rfl ?_|refine Bi rfl ?_|refine Bz rfl ?_|refine Lr ?_);conv=>whnf))
    refine ⟨l - 1, j + 1, cell ++ [ix b.m ((L.getD t.toNat []).getD j.toNat (0, 0)).1 ((L.getD t.toNat []).getD j.toNat (0, 0)).2], ?_, by omega, by omega, by omega, ?_⟩
    · rw [wrapI (by omega)]; rfl
    · rw [map_take _ _ (0, 0) j1 hj, ← j3]
  · have hj := of_decide_eq_false g2
    ((conv=>whnf);repeat((first|refine Ct ‹_› ?_|refine Cf ‹_› ?_|refine Ct rfl ?_|refine Cf rfl ?_|refine Bi rfl ?_|refine Bz rfl ?_|refine Lr ?_);conv=>whnf))
    rw [show j.toNat = (L.getD t.toNat []).length by omega, List.take_length] at j3
    subst j3
    refine Rw_self ?_
    ((conv=>whnf);repeat((first|refine Ct ‹_› ?_|refine Cf ‹_› ?_|refine Ct rfl ?_|refine Cf rfl ?_|refine Bi rfl ?_|refine Bz rfl ?_|refine Lr ?_);conv=>whnf))
    refine Bnd_i ?_ ?_
    · show out.length + 1 < _
      omega
    ((conv=>whnf);repeat((first|refine Ct ‹_› ?_|refine Cf ‹_› ?_|refine Ct rfl ?_|refine Cf rfl ?_|refine Bi rfl ?_|refine Bz rfl ?_|refine Lr ?_);conv=>whnf))
    refine Rw_i (rwLL (out ++ [(L.getD t.toNat []).map fun p => ix b.m p.1 p.2])) (rwLL_app _ _ _ rfl) ?_
    ((conv=>whnf);repeat((first|refine Ct ‹_› ?_|refine Cf ‹_› ?_|refine Ct rfl ?_|refine Cf rfl ?_|refine Bi rfl ?_|refine Bz rfl ?_|refine Lr ?_);conv=>whnf))
    refine ⟨n - 1, t + 1, out ++ [(L.getD t.toNat []).map fun p => ix b.m p.1 p.2], ?_, by omega, by omega, by omega, ?_⟩
    · rw [wrapI (by omega)]; rfl
    · rw [show (t + 1 - 1).toNat = (t - 1 + 1).toNat by omega, range_succ' _ (t - 1) (by omega), ← t3, show (t - 1).toNat + 1 = t.toNat by omega]

theorem F_sightCells (b : Brd) (h : GB b) (i k : Int) (hi : 0 ≤ i ∧ i < b.m.ter.length) (hk : 0 ≤ k ∧ k < b.m.ter.length) :
    Fun E0 44 [.agg b.cs, vI i, vI k] [] (.v (.one (.own 0 (ceL b.m i k).length))) [(0, rwLL (ceL b.m i k))] [] := by
  have hm := h.wh.mul
  have hn := h.n
  have hs := lnM_sub h.wh (i := i) (k := k) (by omega) (by omega)
  have bi := hx_b h.wh (i := i) hi.1 (by omega)
  have bk := hx_b h.wh (i := k) hk.1 (by omega)
  have hc := ceL_len h.wh (i := i) (k := k) (by omega) (by omega)
  refine Fun_of_xc k44 rfl rfl (nrC (rwLL_no _) nrN) ?_
  ((conv=>whnf);repeat((first|refine Ct ‹_› ?_|refine Cf ‹_› ?_|refine Ct rfl ?_|refine Cf rfl ?_|refine Bi rfl ?_|refine Bz rfl ?_|refine Lr ?_);conv=>whnf))
  refine Rw_i (rwLL []) (rwLL_nil _) ?_
  ((conv=>whnf);repeat((first|refine Ct ‹_› ?_|refine Cf ‹_› ?_|refine Ct rfl ?_|refine Cf rfl ?_|refine Bi rfl ?_|refine Bz rfl ?_|refine Lr ?_);conv=>whnf))
  refine Rw_i (rwLL []) (rwLL_nil _) ?_
  ((conv=>whnf);repeat((first|refine Ct ‹_› ?_|refine Cf ‹_› ?_|refine Ct rfl ?_|refine Cf rfl ?_|refine Bi rfl ?_|refine Bz rfl ?_|refine Lr ?_);conv=>whnf))
  (refine CallQ_some (F_hexOf b.m h.wh i hi.1 (by omega)) ?_ ?_ ?_; rfl; rfl); ((conv=>whnf);repeat((first|refine Ct ‹_› ?_|refine Cf ‹_› ?_|refine Ct rfl ?_|refine Cf rfl ?_|refine Bi rfl ?_|refine Bz rfl ?_|refine Lr ?_);conv=>whnf))
  (refine CallQ_some (F_hexOf b.m h.wh k hk.1 (by omega)) ?_ ?_ ?_; rfl; rfl); ((conv=>whnf);repeat((first|refine Ct ‹_› ?_|refine Cf ‹_› ?_|refine Ct rfl ?_|refine Cf rfl ?_|refine Bi rfl ?_|refine Bz rfl ?_|refine Lr ?_);conv=>whnf))
  (refine CallQ_some (F_lineOf _ _ _ _ bi bk) ?_ ?_ ?_; rfl; rfl); ((conv=>whnf);repeat((first|refine Ct ‹_› ?_|refine Cf ‹_› ?_|refine Ct rfl ?_|refine Cf rfl ?_|refine Bi rfl ?_|refine Bz rfl ?_|refine Lr ?_);conv=>whnf))
  have hce : ceL b.m i k = (List.range ((lnM b.m i k).length - 2)).map fun t : Nat => ((lnM b.m i k).getD (t + 1) []).map fun p => ix b.m p.1 p.2 := rfl
  rw [hce]
  rw [← show lnM b.m i k = lnL (i.tmod b.m.w) (i.tdiv b.m.w) (k.tmod b.m.w) (k.tdiv b.m.w) from rfl]
  generalize lnM b.m i k = L at hs ⊢
  clear hce hc
  obtain ⟨s1, s2, s3⟩ := hs
  refine WLoop_v2 ⟨[3, 7, 8, 9], [3], []⟩ (fun (t : Int) (out : List (List Int)) => hdS 53 [(3, .v (.one (.box 3 0))), (7, .v (.one (.own (vkey 7) out.length))), (8, .v (.one (.own (vkey 8) L.length))), (9, .v (vI t))] [(3, b.cs)] [(vkey 7, rwLL out), (vkey 8, rwHH L)])
    (fun n t out => 1 ≤ t ∧ t - 1 + n = ((L.length - 2 : Nat) : Int) ∧ out = (List.range (t - 1).toNat).map fun t : Nat => (L.getD (t + 1) []).map fun p => ix b.m p.1 p.2) (L.length - 2) 1 [] rfl ⟨by omega, by omega, rfl⟩ ?_
  rintro n t out ⟨t1, t2, t3⟩
  have hol : out.length ≤ 19 := by rw [t3, List.length_map, List.length_range]; omega
  ((conv=>whnf);repeat((first|refine Ct ‹_› ?_|refine Cf ‹_› ?_|refine Ct rfl ?_|refine Cf rfl ?_|refine Bi rfl ?_|refine Bz rfl ?_|refine Lr ?_);conv=>whnf))
  refine Cnd_e (c' := decide (t + 1 < (L.length : Int))) (by rw [wrapI (by omega)]) ?_
  refine Cnd_i (fun g => ?_) (fun g => ?_)
  rotate_left
  · have ht := of_decide_eq_false g
    ((conv=>whnf);repeat((first|refine Ct ‹_› ?_|refine Cf ‹_› ?_|refine Ct rfl ?_|refine Cf rfl ?_|refine Bi rfl ?_|refine Bz rfl ?_|refine Lr ?_);conv=>whnf))
    rw [t3, show (t - 1).toNat = L.length - 2 by omega]
    exact ⟨rfl, rfl, rfl⟩
  have ht := of_decide_eq_true g
  have hl2 : (L.getD t.toNat []).length ≤ 2 := s3 _ (getD_memT (d := []) (by omega) (by omega))
  ((conv=>whnf);repeat((first|refine Ct ‹_› ?_|refine Cf ‹_› ?_|refine Ct rfl ?_|refine Cf rfl ?_|refine Bi rfl ?_|refine Bz rfl ?_|refine Lr ?_);conv=>whnf))
  refine Rw_i (rwI []) (rwI_nil _) ?_
  ((conv=>whnf);repeat((first|refine Ct ‹_› ?_|refine Cf ‹_› ?_|refine Ct rfl ?_|refine Cf rfl ?_|refine Bi rfl ?_|refine Bz rfl ?_|refine Lr ?_);conv=>whnf))
  refine Bnd_i (⟨by omega, by omega⟩) ?_; ((conv=>whnf);repeat((first|refine Ct ‹_› ?_|refine Cf ‹_› ?_|refine Ct rfl ?_|refine Cf rfl ?_|refine Bi rfl ?_|refine Bz rfl ?_|refine Lr ?_);conv=>whnf))
  refine WLoop_v2 ⟨[3, 7, 8, 9, 10, 35, 36], [3], [(34, 8)]⟩ (fun (j : Int) (cell : List Int) => hdS 53 [(3, .v (.one (.box 3 0))), (7, .v (.one (.own (vkey 7) out.length))), (8, .v (.one (.own (vkey 8) L.length))), (9, .v (vI t)), (10, .v (.one (.own (vkey 10) cell.length))), (34, .v (.one (.own1 (vkey 8) t.toNat 0 (L.getD t.toNat []).length))), (35, .v (vI (L.getD t.toNat []).length)), (36, .v (vI j))] [(3, b.cs)] [(vkey 7, rwLL out), (vkey 8, rwHH L), (vkey 10, rwI cell)])
    (fun n j cell => 0 ≤ j ∧ j + n = (L.getD t.toNat []).length ∧ cell = ((L.getD t.toNat []).take j.toNat).map fun p => ix b.m p.1 p.2) (L.getD t.toNat []).length 0 [] rfl ⟨by omega, by omega, rfl⟩ ?_
  rintro l j cell ⟨j1, j2, j3⟩
  have hcl : cell.length ≤ 2 := by rw [j3, List.length_map, List.length_take]; omega
  ((conv=>whnf);repeat((first|refine Ct ‹_› ?_|refine Cf ‹_› ?_|refine Ct rfl ?_|refine Cf rfl ?_|refine Bi rfl ?_|refine Bz rfl ?_|refine Lr ?_);conv=>whnf))
  refine Cnd_i (fun g2 => ?_) (fun g2 => ?_)
  · have hj := of_decide_eq_true g2
    ((conv=>whnf);repeat((first|refine Ct ‹_› ?_|refine Cf ‹_› ?_|refine Ct rfl ?_|refine Cf rfl ?_|refine Bi rfl ?_|refine Bz rfl ?_|refine Lr ?_);conv=>whnf))
    refine Bnd_i (⟨j1, hj⟩) ?_; ((conv=>whnf);repeat((first|refine Ct ‹_› ?_|refine Cf ‹_› ?_|refine Ct rfl ?_|refine Cf rfl ?_|refine Bi rfl ?_|refine Bz rfl ?_|refine Lr ?_);conv=>whnf))
    (refine CallQ_some (F_indexOf b.m h.wh _ _) ?_ ?_ ?_; rfl; rfl); ((conv=>whnf);repeat((first|refine Ct ‹_› ?_|refine Cf ‹_› ?_|refine Ct rfl ?_|refine Cf rfl ?_|refine Bi rfl ?_|refine Bz rfl ?_|refine Lr ?_);conv=>whnf))
    refine Rw_self ?_
    ((conv=>whnf);repeat((first|refine Ct ‹_› ?_|refine Cf ‹_› ?_|refine Ct rfl ?_|refine Cf rfl ?_|refine Bi rfl ?_|refine Bz rfl ?_|refine Lr ?_);conv=>whnf))
    refine Bnd_i ?_ ?_
    · show cell.length + 1 < _
      omega
    ((conv=>whnf);repeat((first|refine Ct ‹_› ?_|refine Cf ‹_› ?_|refine Ct rfl ?_|refine Cf rfl ?_|refine Bi rfl ?_|refine Bz rfl ?_|refine Lr ?_);conv=>whnf))
    refine Rw_i (rwI (cell ++ [ix b.m ((L.getD t.toNat []).getD j.toNat (0, 0)).1 ((L.getD t.toNat []).getD j.toNat (0, 0)).2])) (rwI_app _ _ _ rfl) ?_
    ((conv=>whnf);repeat((first|refine Ct ‹_› ?_|refine Cf ‹_› ?_|refine Ct rfl ?_|refine Cf rfl ?_|refine Bi rfl ?_|refine Bz rfl ?_|refine Lr ?_);conv=>whnf))
    refine ⟨l - 1, j + 1, cell ++ [ix b.m ((L.getD t.toNat []).getD j.toNat (0, 0)).1 ((L.getD t.toNat []).getD j.toNat (0, 0)).2], ?_, by omega, by omega, by omega, ?_⟩
    · rw [wrapI (by omega)]; rfl
    · rw [map_take _ _ (0, 0) j1 hj, ← j3]
  · have hj := of_decide_eq_false g2
    ((conv=>whnf);repeat((first|refine Ct ‹_› ?_|refine Cf ‹_› ?_|refine Ct rfl ?_|refine Cf rfl ?_|refine Bi rfl ?_|refine Bz rfl ?_|refine Lr ?_);conv=>whnf))
    rw [show j.toNat = (L.getD t.toNat []).length by omega, List.take_length] at j3
    subst j3
    refine Rw_self ?_
    ((conv=>whnf);repeat((first|refine Ct ‹_› ?_|refine Cf ‹_› ?_|refine Ct rfl ?_|refine Cf rfl ?_|refine Bi rfl ?_|refine Bz rfl ?_|refine Lr ?_);conv=>whnf))
    refine Bnd_i ?_ ?_
    · show out.length + 1 < _
      omega
    ((conv=>whnf);repeat((first|refine Ct ‹_› ?_|refine Cf ‹_› ?_|refine Ct rfl ?_|refine Cf rfl ?_|refine Bi rfl ?_|refine Bz rfl ?_|refine Lr ?_);conv=>whnf))
    refine Rw_i (rwLL (out ++ [(L.getD t.toNat []).map fun p => ix b.m p.1 p.2])) (rwLL_app _ _ _ rfl) ?_
    ((conv=>whnf);repeat((first|refine Ct ‹_› ?_|refine Cf ‹_› ?_|refine Ct rfl ?_|refine Cf rfl ?_|refine Bi rfl ?_|refine Bz rfl ?_|refine Lr ?_);conv=>whnf))
    refine ⟨n - 1, t + 1, out ++ [(L.getD t.toNat []).map fun p => ix b.m p.1 p.2], ?_, by omega, by omega, by omega, ?_⟩
    · rw [wrapI (by omega)]; rfl
    · rw [show (t + 1 - 1).toNat = (t - 1 + 1).toNat by omega, range_succ' _ (t - 1) (by omega), ← t3, show (t - 1).toNat + 1 = t.toNat by omega]

theorem PrOk {b : Brd} (ho : b.Ok) {i k : Int} (h : okPr b i k = true) : GB b ∧ (0 ≤ i ∧ i < b.m.ter.length) ∧ 0 ≤ k ∧ k < b.m.ter.length := by
  simp only [okPr, Bool.and_eq_true] at h
  have a := PlOk.of ho h.1
  have c := PlOk.of ho h.2
  exact ⟨a.gb, ⟨a.i0, a.i1⟩, c.i0, c.i1⟩

/-! ### a place to meet -/
def betM (L L' : List Int) (x y : Int) : Prop := max (L.getD x.toNat 0) (L'.getD x.toNat 0) < max (L.getD y.toNat 0) (L'.getD y.toNat 0) ∨ (max (L.getD x.toNat 0) (L'.getD x.toNat 0) = max (L.getD y.toNat 0) (L'.getD y.toNat 0) ∧ L.getD x.toNat 0 + L'.getD x.toNat 0 < L.getD y.toNat 0 + L'.getD y.toNat 0)

instance (L L' : List Int) (x y : Int) : Decidable (betM L L' x y) := by unfold betM; infer_instance

structure KiOk (b : Brd) (k i : Int) : Prop where
  gb : GB b
  k : 0 ≤ k ∧ k < b.r.knd.length
  i : 0 ≤ i ∧ i < b.m.ter.length

structure KdOk (b : Brd) (k : Int) : Prop where
  gb : GB b
  k : 0 ≤ k ∧ k < b.r.knd.length

structure SpD (N : Nat) (g : Int → Int → Prop) (op : Int → Bool) (S : Int → Prop) (a : Int) (L B : List Int) (n : Int) : Prop where
  hL : DstS N g op S L
  hB : DstS N g op (fun k => k = a) B
  sym : ∀ j k, g j k → g k j
  gb : ∀ j k, g j k → (0 ≤ j ∧ j < N)
  so : ∀ k, S k → op k = true
  sb : ∀ k, S k → 0 ≤ k ∧ k < N
  ab : 0 ≤ a ∧ a < N
  n0 : 0 ≤ n
  hn : L.getD a.toNat 0 = n
namespace SpD

variable {N : Nat} {g : Int → Int → Prop} {op : Int → Bool} {S : Int → Prop} {a n : Int} {L B : List Int}

theorem wL (h : SpD N g op S a L B n) {k : Int} (hk : 0 ≤ k ∧ k < N) (h0 : 0 ≤ L.getD k.toNat 0) : Wy g op S k (L.getD k.toNat 0) := by
  have := h.hL.snd k.toNat (by omega) h0
  rwa [show ((k.toNat : Nat) : Int) = k by omega] at this

theorem wB (h : SpD N g op S a L B n) {k : Int} (hk : 0 ≤ k ∧ k < N) (h0 : 0 ≤ B.getD k.toNat 0) : Wy g op (fun y => y = a) k (B.getD k.toNat 0) := by
  have := h.hB.snd k.toNat (by omega) h0
  rwa [show ((k.toNat : Nat) : Int) = k by omega] at this

theorem lL (h : SpD N g op S a L B n) {k c : Int} (hk : 0 ≤ k ∧ k < N) (hw : Wy g op S k c) : 0 ≤ L.getD k.toNat 0 ∧ L.getD k.toNat 0 ≤ c :=
  h.hL.lst k.toNat c (by omega) (by rwa [show ((k.toNat : Nat) : Int) = k by omega])

theorem oa (h : SpD N g op S a L B n) : op a = true := (h.wL h.ab (by rw [h.hn]; exact h.n0)).opn h.so

theorem bo (h : SpD N g op S a L B n) {k : Int} (hk : 0 ≤ k ∧ k < N) (h0 : 0 ≤ B.getD k.toNat 0) : op k = true := (h.wB hk h0).opn (fun k hk => by rw [hk]; exact h.oa)

theorem tri (h : SpD N g op S a L B n) {k : Int} (hk : 0 ≤ k ∧ k < N) (h1 : 0 ≤ L.getD k.toNat 0) (h2 : 0 ≤ B.getD k.toNat 0) : n ≤ L.getD k.toNat 0 + B.getD k.toNat 0 := by
  have w := (h.wL hk h1).app ((h.wB hk h2).rev h.sym h.oa)
  have := (h.lL h.ab w).2
  rw [h.hn] at this; exact this

theorem stp (h : SpD N g op S a L B n) {j k : Int} (hg : g j k) (ho : op k = true) (h0 : 0 ≤ L.getD j.toNat 0) : 0 ≤ L.getD k.toNat 0 ∧ L.getD k.toNat 0 ≤ L.getD j.toNat 0 + 1 :=
  h.lL (h.gb _ _ (h.sym _ _ hg)) (.step (h.wL (h.gb _ _ hg) h0) hg ho)

/-- a place that is nearer to the end lies on a least way -/
theorem on (h : SpD N g op S a L B n) {z k : Int} (hg : g z k) (h1 : L.getD z.toNat 0 + B.getD z.toNat 0 = n) (h0 : 0 ≤ L.getD z.toNat 0) (hb : 0 ≤ B.getD k.toNat 0) (h2 : B.getD k.toNat 0 = B.getD z.toNat 0 - 1) : L.getD k.toNat 0 = L.getD z.toNat 0 + 1 := by
  have hk := h.gb _ _ (h.sym _ _ hg)
  have s := h.stp hg (h.bo hk hb) h0
  have t := h.tri hk s.1 hb
  omega

end SpD

abbrev roLL (L : List (List Int)) : Cell := .ro 1 L.length fun i _ => .ro 1 (L.getD i []).length fun a _ => cI ((L.getD i []).getD a 0)

def SmL (L : List (List Int)) : Prop := L.length ≤ 1048576 ∧ ∀ i : Nat, (L.getD i []).length ≤ 1048576

/-- how many numbers stand in the first i rows -/
def ofs (L : List (List Int)) : Nat → Int
  | 0 => 0
  | i + 1 => ofs L i + (L.getD i []).length

def lenSS (L : List (List Int)) : Int := ofs L L.length

theorem ofs_b {L : List (List Int)} (h : SmL L) (i : Nat) : 0 ≤ ofs L i ∧ ofs L i ≤ 1048576 * (i : Int) := by
  induction i with
  | zero => exact ⟨Int.le_refl _, by show (0 : Int) ≤ _; omega⟩
  | succ i ih =>
    have := h.2 i
    show 0 ≤ ofs L i + _ ∧ ofs L i + _ ≤ _
    omega

theorem ofs_s (L : List (List Int)) (i : Int) (h : 0 ≤ i) : ofs L (i + 1).toNat = ofs L i.toNat + (L.getD i.toNat []).length := by
  rw [show (i + 1).toNat = i.toNat + 1 by omega]; rfl

theorem F_eqIntSS (L : List (List Int)) (h1 : L.length ≤ 1048576) (h2 : ∀ i : Nat, (L.getD i []).length ≤ 1048576) : Fun E0 18 [.one (roLL L), .one (roLL L)] [] (.v (vB true)) [] [] := by
  refine Fun_of_xc k18 rfl rfl (fun k q h => by cases h) ?_
  ((conv=>whnf);repeat((first|refine Ct ‹_› ?_|refine Cf ‹_› ?_|refine Ct rfl ?_|refine Cf rfl ?_|refine Bi rfl ?_|refine Bz rfl ?_|refine Lr ?_);conv=>whnf))
  refine Cnd_f (by simp) ?_
  ((conv=>whnf);repeat((first|refine Ct ‹_› ?_|refine Cf ‹_› ?_|refine Ct rfl ?_|refine Cf rfl ?_|refine Bi rfl ?_|refine Bz rfl ?_|refine Lr ?_);conv=>whnf))
  refine WLoop_v ⟨[0, 1, 5], [], []⟩ (fun i : Int => hdS 27 [(0, .v (.one (roLL L))), (1, .v (.one (roLL L))), (5, .v (vI i))] [] [])
    (fun k i => 0 ≤ i ∧ i + k = L.length) L.length 0 rfl ⟨by omega, by omega⟩ ?_
  rintro k i ⟨a1, a2⟩
  ((conv=>whnf);repeat((first|refine Ct ‹_› ?_|refine Cf ‹_› ?_|refine Ct rfl ?_|refine Cf rfl ?_|refine Bi rfl ?_|refine Bz rfl ?_|refine Lr ?_);conv=>whnf))
  refine Cnd_i (fun h => ?_) (fun h => ?_)
  · have hi' : i < L.length := of_decide_eq_true h
    ((conv=>whnf);repeat((first|refine Ct ‹_› ?_|refine Cf ‹_› ?_|refine Ct rfl ?_|refine Cf rfl ?_|refine Bi rfl ?_|refine Bz rfl ?_|refine Lr ?_);conv=>whnf))
    refine Bnd_i (⟨a1, hi'⟩) ?_; ((conv=>whnf);repeat((first|refine Ct ‹_› ?_|refine Cf ‹_› ?_|refine Ct rfl ?_|refine Cf rfl ?_|refine Bi rfl ?_|refine Bz rfl ?_|refine Lr ?_);conv=>whnf))
    refine Bnd_i (⟨a1, hi'⟩) ?_; ((conv=>whnf);repeat((first|refine Ct ‹_› ?_|refine Cf ‹_› ?_|refine Ct rfl ?_|refine Cf rfl ?_|refine Bi rfl ?_|refine Bz rfl ?_|refine Lr ?_);conv=>whnf))
    (refine CallQ_some (F_eqIntS (L.getD i.toNat []) (h2 _)) ?_ ?_ ?_; rfl; rfl); ((conv=>whnf);repeat((first|refine Ct ‹_› ?_|refine Cf ‹_› ?_|refine Ct rfl ?_|refine Cf rfl ?_|refine Bi rfl ?_|refine Bz rfl ?_|refine Lr ?_);conv=>whnf))
    refine ⟨k - 1, i + 1, ?_, ?_, ?_, ?_⟩
    · rw [wrapI (by omega)]; rfl
    · omega
    · omega
    · omega
  · ((conv=>whnf);repeat((first|refine Ct ‹_› ?_|refine Cf ‹_› ?_|refine Ct rfl ?_|refine Cf rfl ?_|refine Bi rfl ?_|refine Bz rfl ?_|refine Lr ?_);conv=>whnf))
    exact ⟨rfl, rfl, rfl⟩

/-- a row of rows, the first i marked from k on -/
abbrev mkF (L : List (List Int)) (k : Int) (i : Int) (j c a : Nat) : Int := if c = 0 ∧ (j : Int) < i then (upt (k + ofs L j) (L.getD j []).length).getD a 0 else (L.getD j []).getD a 0

abbrev rwM (L : List (List Int)) (k : Int) (i : Int) : Row := ⟨true, 1, L.length, fun j c => .fr 1 (L.getD j []).length fun a _ => cI (mkF L k i j c a)⟩

theorem rwM_no (L : List (List Int)) (k i : Int) : NoRo (rwM L k i) := fun _ _ _ _ _ _ _ _ => rfl

theorem rwM_0 (L : List (List Int)) (k : Int) : rwLL L = rwM L k 0 := by
  unfold rwLL rwM
  congr 1
  funext j c
  congr 1
  funext a _
  congr 1
  unfold mkF
  rw [if_neg (by omega)]

theorem rwM_s (L : List (List Int)) (k i : Int) (h : 0 ≤ i) : (fun j c => .fr 1 (L.getD j []).length fun a _ => cI (mkF L k (i + 1) j c a)) = setCell (fun j c => Cell.fr 1 (L.getD j []).length fun a _ => cI (mkF L k i j c a)) i.toNat 0 (.fr 1 (L.getD i.toNat []).length fun a _ => cI ((upt (k + ofs L i.toNat) (L.getD i.toNat []).length).getD a 0)) := by
  funext j c
  unfold setCell
  by_cases e : j = i.toNat ∧ c = 0
  · obtain ⟨rfl, rfl⟩ := e
    simp only [Nat.beq_refl, Bool.and_self, cond_true]
    congr 1
    funext a _
    congr 1
    unfold mkF
    rw [if_pos ⟨rfl, by omega⟩]
  · have : (Nat.beq j i.toNat && Nat.beq c 0) = false := by
      rw [Bool.eq_false_iff]
      intro hh
      rw [Bool.and_eq_true] at hh
      exact e ⟨Nat.eq_of_beq_eq_true hh.1, Nat.eq_of_beq_eq_true hh.2⟩
    rw [this, cond_false]
    congr 1
    funext a _
    congr 1
    unfold mkF
    by_cases e2 : c = 0 ∧ (j : Int) < i
    · rw [if_pos e2, if_pos ⟨e2.1, by omega⟩]
    · rw [if_neg e2, if_neg (fun hh => e2 ⟨hh.1, by
        have := hh.1
        have := hh.2
        by_cases e3 : j = i.toNat
        · exact absurd ⟨e3, hh.1⟩ e
        · omega⟩)]

theorem F_markIntSS (L : List (List Int)) (k : Int) (h1 : L.length ≤ 1048576) (h2 : ∀ i : Nat, (L.getD i []).length ≤ 1048576) (h0 : 0 ≤ k) (hk : k ≤ 1048576) :
    Fun E0 19 [.one (.own P0 L.length), vI k] [(P0, rwLL L)] (.v (vI (k + lenSS L))) [] [(P0, rwM L k L.length)] := by
  have hb := fun i => ofs_b ⟨h1, h2⟩ (L := L) i
  rw [rwM_0 L k]
  refine Fun_of_xc k19 rfl rfl (nrC (rwM_no _ _ _) nrN) ?_
  ((conv=>whnf);repeat((first|refine Ct ‹_› ?_|refine Cf ‹_› ?_|refine Ct rfl ?_|refine Cf rfl ?_|refine Bi rfl ?_|refine Bz rfl ?_|refine Lr ?_);conv=>whnf))
  refine WLoop_v ⟨[0, 1, 5], [], []⟩ (fun i : Int => hdS 19 [(0, .v (.one (.own P0 L.length))), (1, .v (vI (k + ofs L i.toNat))), (5, .v (vI i))] [] [(P0, rwM L k i)])
    (fun n i => 0 ≤ i ∧ i + n = L.length) L.length 0 (by rw [show k + ofs L (0 : Int).toNat = k by show k + 0 = k; omega]; rfl) ⟨by omega, by omega⟩ ?_
  rintro n i ⟨a1, a2⟩
  ((conv=>whnf);repeat((first|refine Ct ‹_› ?_|refine Cf ‹_› ?_|refine Ct rfl ?_|refine Cf rfl ?_|refine Bi rfl ?_|refine Bz rfl ?_|refine Lr ?_);conv=>whnf))
  refine Cnd_i (fun h => ?_) (fun h => ?_)
  · have hi' : i < L.length := of_decide_eq_true h
    have hbi := hb i.toNat
    ((conv=>whnf);repeat((first|refine Ct ‹_› ?_|refine Cf ‹_› ?_|refine Ct rfl ?_|refine Cf rfl ?_|refine Bi rfl ?_|refine Bz rfl ?_|refine Lr ?_);conv=>whnf))
    refine Bnd_i (⟨a1, hi'⟩) ?_; ((conv=>whnf);repeat((first|refine Ct ‹_› ?_|refine Cf ‹_› ?_|refine Ct rfl ?_|refine Cf rfl ?_|refine Bi rfl ?_|refine Bz rfl ?_|refine Lr ?_);conv=>whnf))
    have e9 : (fun a _ => cI (mkF L k i i.toNat 0 a)) = fun (a : Nat) (_ : Nat) => cI ((L.getD i.toNat []).getD a 0) := by
      funext a _
      unfold mkF
      rw [if_neg (by omega)]
    refine CallR_as (as' := [.one (.own P0 (L.getD i.toNat []).length), vI (k + ofs L i.toNat)]) (ob' := [(P0, rwI (L.getD i.toNat []))]) rfl (by show [(P0, (⟨false, 1, (L.getD i.toNat []).length, fun a _ => cI (mkF L k i i.toNat 0 a)⟩ : Row))] = _; rw [e9]) ?_
    (refine CallR_some (F_markIntS (L.getD i.toNat []) (k + ofs L i.toNat) (h2 _) (by omega) (by omega)) (by repeat (first | exact trivial | refine ⟨rfl, rfl, rfl, rfl, ?_⟩)) ?_ ?_ ?_ ?_; rfl; rfl; rfl); ((conv=>whnf);repeat((first|refine Ct ‹_› ?_|refine Cf ‹_› ?_|refine Ct rfl ?_|refine Cf rfl ?_|refine Bi rfl ?_|refine Bz rfl ?_|refine Lr ?_);conv=>whnf))
    refine ⟨n - 1, i + 1, ?_, ?_, ?_, ?_⟩
    · rw [wrapI (n := i + 1) (by omega), show k + ofs L i.toNat + ((L.getD i.toNat []).length : Int) = k + ofs L (i + 1).toNat by rw [ofs_s L i a1]; omega]
      show _ = some (hdS 19 [(0, .v (.one (.own P0 L.length))), (1, .v (vI (k + ofs L (i + 1).toNat))), (5, .v (vI (i + 1)))] [] [(P0, ⟨true, 1, L.length, fun j c => .fr 1 (L.getD j []).length fun a _ => cI (mkF L k (i + 1) j c a)⟩)])
      rw [rwM_s L k i a1]
      rfl
    · omega
    · omega
    · omega
  · have hi' := of_decide_eq_false h
    ((conv=>whnf);repeat((first|refine Ct ‹_› ?_|refine Cf ‹_› ?_|refine Ct rfl ?_|refine Cf rfl ?_|refine Bi rfl ?_|refine Bz rfl ?_|refine Lr ?_);conv=>whnf))
    obtain rfl : i = (L.length : Int) := by omega
    exact ⟨rfl, rfl, rfl⟩

theorem F_heldIntSS (L : List (List Int)) (k : Int) (h1 : L.length ≤ 1048576) (h2 : ∀ i : Nat, (L.getD i []).length ≤ 1048576) (h0 : 0 ≤ k) (hk : k ≤ 1048576) :
    Fun E0 20 [.one (.ro 1 L.length fun j c => .ro 1 (L.getD j []).length fun a _ => cI (mkF L k L.length j c a)), vI k] [] (.v (vI (k + lenSS L))) [] [] := by
  have hb := fun i => ofs_b ⟨h1, h2⟩ (L := L) i
  refine Fun_of_xc k20 rfl rfl (fun k q h => by cases h) ?_
  ((conv=>whnf);repeat((first|refine Ct ‹_› ?_|refine Cf ‹_› ?_|refine Ct rfl ?_|refine Cf rfl ?_|refine Bi rfl ?_|refine Bz rfl ?_|refine Lr ?_);conv=>whnf))
  refine WLoop_v ⟨[0, 1, 5], [], []⟩ (fun i : Int => hdS 21 [(0, .v (.one (.ro 1 L.length fun j c => .ro 1 (L.getD j []).length fun a _ => cI (mkF L k L.length j c a)))), (1, .v (vI (k + ofs L i.toNat))), (5, .v (vI i))] [] [])
    (fun n i => 0 ≤ i ∧ i + n = L.length) L.length 0 (by rw [show k + ofs L (0 : Int).toNat = k by show k + 0 = k; omega]; rfl) ⟨by omega, by omega⟩ ?_
  rintro n i ⟨a1, a2⟩
  ((conv=>whnf);repeat((first|refine Ct ‹_› ?_|refine Cf ‹_› ?_|refine Ct rfl ?_|refine Cf rfl ?_|refine Bi rfl ?_|refine Bz rfl ?_|refine Lr ?_);conv=>whnf))
  refine Cnd_i (fun h => ?_) (fun h => ?_)
  · have hi' : i < L.length := of_decide_eq_true h
    have hbi := hb i.toNat
    have e9 : (fun a _ => cI (mkF L k L.length i.toNat 0 a)) = fun (a : Nat) (_ : Nat) => cI ((upt (k + ofs L i.toNat) (L.getD i.toNat []).length).getD a 0) := by
      funext a _
      unfold mkF
      rw [if_pos ⟨rfl, by omega⟩]
    ((conv=>whnf);repeat((first|refine Ct ‹_› ?_|refine Cf ‹_› ?_|refine Ct rfl ?_|refine Cf rfl ?_|refine Bi rfl ?_|refine Bz rfl ?_|refine Lr ?_);conv=>whnf))
    refine Bnd_i (⟨a1, hi'⟩) ?_; ((conv=>whnf);repeat((first|refine Ct ‹_› ?_|refine Cf ‹_› ?_|refine Ct rfl ?_|refine Cf rfl ?_|refine Bi rfl ?_|refine Bz rfl ?_|refine Lr ?_);conv=>whnf))
    refine CallQ_eq (show _ = [V.one (.ro 1 (L.getD i.toNat []).length fun a _ => cI ((upt (k + ofs L i.toNat) (L.getD i.toNat []).length).getD a 0)), vI (k + ofs L i.toNat)] by rw [← e9]) ?_
    (refine CallQ_some (F_heldIntS (k + ofs L i.toNat) (L.getD i.toNat []).length (h2 _) (by omega) (by omega)) ?_ ?_ ?_; rfl; rfl); ((conv=>whnf);repeat((first|refine Ct ‹_› ?_|refine Cf ‹_› ?_|refine Ct rfl ?_|refine Cf rfl ?_|refine Bi rfl ?_|refine Bz rfl ?_|refine Lr ?_);conv=>whnf))
    refine Cnd_f (decide_eq_false (by omega)) ?_
    ((conv=>whnf);repeat((first|refine Ct ‹_› ?_|refine Cf ‹_› ?_|refine Ct rfl ?_|refine Cf rfl ?_|refine Bi rfl ?_|refine Bz rfl ?_|refine Lr ?_);conv=>whnf))
    refine ⟨n - 1, i + 1, ?_, ?_, ?_, ?_⟩
    · rw [wrapI (n := i + 1) (by omega), show k + ofs L i.toNat + ((L.getD i.toNat []).length : Int) = k + ofs L (i + 1).toNat by rw [ofs_s L i a1]; omega]; rfl
    · omega
    · omega
    · omega
  · have hi' := of_decide_eq_false h
    ((conv=>whnf);repeat((first|refine Ct ‹_› ?_|refine Cf ‹_› ?_|refine Ct rfl ?_|refine Cf rfl ?_|refine Bi rfl ?_|refine Bz rfl ?_|refine Lr ?_);conv=>whnf))
    obtain rfl : i = (L.length : Int) := by omega
    exact ⟨rfl, rfl, rfl⟩

def sclR (b : Brd) (i k : Int) : List (List Int) × Bool := if okPr b i k = true then (ceL b.m i k, true) else ([], false)

theorem sclR_sm (b : Brd) (ho : b.Ok) (i k : Int) : SmL (sclR b i k).1 := by
  unfold sclR
  split
  · rename_i g
    obtain ⟨h, hi, hk⟩ := PrOk ho g
    have hn := h.n
    have hc := ceL_len h.wh (i := i) (k := k) (by omega) (by omega)
    refine ⟨by show (ceL b.m i k).length ≤ _; omega, fun j => ?_⟩
    show ((ceL b.m i k).getD j []).length ≤ _
    by_cases e : j < (ceL b.m i k).length
    · have := hc.2 _ (getD_memT (d := []) (i := (j : Int)) (by omega) (by omega))
      rw [show ((j : Int)).toNat = j by omega] at this
      omega
    · rw [List.getD_eq_getElem?_getD, List.getElem?_eq_none (by omega)]; exact Nat.zero_le _
  · exact ⟨Nat.zero_le _, fun j => by show (([] : List (List Int)).getD j []).length ≤ _; simp⟩

theorem F_SightCells (b : Brd) (ho : b.Ok) (i k : Int) : Fun E0 16 [.agg b.cs, vI i, vI k] [] (.tup [.one (.own 0 (sclR b i k).1.length), vB (sclR b i k).2]) [(0, rwLL (sclR b i k).1)] [] := by
  refine Fun_of_xc k16 rfl rfl (nrC (rwLL_no _) nrN) ?_
  ((conv=>whnf);repeat((first|refine Ct ‹_› ?_|refine Cf ‹_› ?_|refine Ct rfl ?_|refine Cf rfl ?_|refine Bi rfl ?_|refine Bz rfl ?_|refine Lr ?_);conv=>whnf))
  refine Rw_i (rwLL []) (rwLL_nil _) ?_
  ((conv=>whnf);repeat((first|refine Ct ‹_› ?_|refine Cf ‹_› ?_|refine Ct rfl ?_|refine Cf rfl ?_|refine Bi rfl ?_|refine Bz rfl ?_|refine Lr ?_);conv=>whnf))
  (refine CallQ_some (F_vPair b ho i k) ?_ ?_ ?_; rfl; rfl); ((conv=>whnf);repeat((first|refine Ct ‹_› ?_|refine Cf ‹_› ?_|refine Ct rfl ?_|refine Cf rfl ?_|refine Bi rfl ?_|refine Bz rfl ?_|refine Lr ?_);conv=>whnf))
  refine Cnd_i (fun g => ?_) (fun g => ?_)
  · have e0 : okPr b i k = false := by simpa using g
    ((conv=>whnf);repeat((first|refine Ct ‹_› ?_|refine Cf ‹_› ?_|refine Ct rfl ?_|refine Cf rfl ?_|refine Bi rfl ?_|refine Bz rfl ?_|refine Lr ?_);conv=>whnf))
    refine Rw_i (rwLL []) (rwLL_nil _) ?_
    ((conv=>whnf);repeat((first|refine Ct ‹_› ?_|refine Cf ‹_› ?_|refine Ct rfl ?_|refine Cf rfl ?_|refine Bi rfl ?_|refine Bz rfl ?_|refine Lr ?_);conv=>whnf))
    rw [sclR, e0]
    exact ⟨rfl, rfl, rfl⟩
  have e0 : okPr b i k = true := by simpa using g
  obtain ⟨h, hi, hk⟩ := PrOk ho e0
  ((conv=>whnf);repeat((first|refine Ct ‹_› ?_|refine Cf ‹_› ?_|refine Ct rfl ?_|refine Cf rfl ?_|refine Bi rfl ?_|refine Bz rfl ?_|refine Lr ?_);conv=>whnf))
  (refine CallQ_some (F_vCells b h i k hi hk) ?_ ?_ ?_; rfl; rfl); ((conv=>whnf);repeat((first|refine Ct ‹_› ?_|refine Cf ‹_› ?_|refine Ct rfl ?_|refine Cf rfl ?_|refine Bi rfl ?_|refine Bz rfl ?_|refine Lr ?_);conv=>whnf))
  rw [sclR, e0]
  exact ⟨rfl, rfl, rfl⟩

theorem F_SightCellsI (b : Brd) (ho : b.Ok) (i k : Int) : Fun E0 17 [.agg b.cs, vI i, vI k] [] (.tup [.one (.own 0 (sclR b i k).1.length), vB (sclR b i k).2]) [(0, rwLL (sclR b i k).1)] [] := by
  refine Fun_of_xc k17 rfl rfl (nrC (rwLL_no _) nrN) ?_
  ((conv=>whnf);repeat((first|refine Ct ‹_› ?_|refine Cf ‹_› ?_|refine Ct rfl ?_|refine Cf rfl ?_|refine Bi rfl ?_|refine Bz rfl ?_|refine Lr ?_);conv=>whnf))
  refine Rw_i (rwLL []) (rwLL_nil _) ?_
  ((conv=>whnf);repeat((first|refine Ct ‹_› ?_|refine Cf ‹_› ?_|refine Ct rfl ?_|refine Cf rfl ?_|refine Bi rfl ?_|refine Bz rfl ?_|refine Lr ?_);conv=>whnf))
  (refine CallQ_some (F_isPair b ho i k) ?_ ?_ ?_; rfl; rfl); ((conv=>whnf);repeat((first|refine Ct ‹_› ?_|refine Cf ‹_› ?_|refine Ct rfl ?_|refine Cf rfl ?_|refine Bi rfl ?_|refine Bz rfl ?_|refine Lr ?_);conv=>whnf))
  refine Cnd_i (fun g => ?_) (fun g => ?_)
  · have e0 : okPr b i k = false := by simpa using g
    ((conv=>whnf);repeat((first|refine Ct ‹_› ?_|refine Cf ‹_› ?_|refine Ct rfl ?_|refine Cf rfl ?_|refine Bi rfl ?_|refine Bz rfl ?_|refine Lr ?_);conv=>whnf))
    refine Rw_i (rwLL []) (rwLL_nil _) ?_
    ((conv=>whnf);repeat((first|refine Ct ‹_› ?_|refine Cf ‹_› ?_|refine Ct rfl ?_|refine Cf rfl ?_|refine Bi rfl ?_|refine Bz rfl ?_|refine Lr ?_);conv=>whnf))
    rw [sclR, e0]
    exact ⟨rfl, rfl, rfl⟩
  have e0 : okPr b i k = true := by simpa using g
  obtain ⟨h, hi, hk⟩ := PrOk ho e0
  ((conv=>whnf);repeat((first|refine Ct ‹_› ?_|refine Cf ‹_› ?_|refine Ct rfl ?_|refine Cf rfl ?_|refine Bi rfl ?_|refine Bz rfl ?_|refine Lr ?_);conv=>whnf))
  (refine CallQ_some (F_sightCells b h i k hi hk) ?_ ?_ ?_; rfl; rfl); ((conv=>whnf);repeat((first|refine Ct ‹_› ?_|refine Cf ‹_› ?_|refine Ct rfl ?_|refine Cf rfl ?_|refine Bi rfl ?_|refine Bz rfl ?_|refine Lr ?_);conv=>whnf))
  rw [sclR, e0]
  exact ⟨rfl, rfl, rfl⟩

theorem F_FnExactSightCells (x0 : Brd) (x1 : Int) (x2 : Int) (o0 : x0.Ok) (o1 : i64 x1) (o2 : i64 x2) :
    Fun E0 4 [.agg x0.cs, vI x1, vI x2] [] (.v (vB true)) [] [] := by
  have hS := F_SightCells x0 o0 x1 x2
  have hI := F_SightCellsI x0 o0 x1 x2
  have hr0 : SmL (sclR x0 x1 x2).1 := sclR_sm x0 o0 x1 x2
  revert hS hI hr0
  generalize sclR x0 x1 x2 = RR
  obtain ⟨r0, r1⟩ := RR
  intro hS hI hr0
  dsimp only at hS
  dsimp only at hI
  dsimp only at hr0
  refine Fun_of_xc k4 rfl rfl (fun k q h => by cases h) ?_
  ((conv=>whnf);repeat((first|refine Ct ‹_› ?_|refine Cf ‹_› ?_|refine Ct rfl ?_|refine Cf rfl ?_|refine Bi rfl ?_|refine Bz rfl ?_|refine Lr ?_);conv=>whnf))
  (refine CallQ_some (F_szBoard x0 o0 1048576 (by omega) (by omega)) ?_ ?_ ?_; rfl; rfl); ((conv=>whnf);repeat((first|refine Ct ‹_› ?_|refine Cf ‹_› ?_|refine Ct rfl ?_|refine Cf rfl ?_|refine Bi rfl ?_|refine Bz rfl ?_|refine Lr ?_);conv=>whnf))
  refine Cnd_i (fun g => ?_) (fun g => ?_)
  · ((conv=>whnf);repeat((first|refine Ct ‹_› ?_|refine Cf ‹_› ?_|refine Ct rfl ?_|refine Cf rfl ?_|refine Bi rfl ?_|refine Bz rfl ?_|refine Lr ?_);conv=>whnf))
    exact ⟨rfl, rfl, rfl⟩
  have sm0 := szB_sm (b := x0) (x := 1048576) (by omega) (by omega) (of_decide_eq_false g)
  have s0 := sm0.1
  have sb0 := sm0.2
  have sc0 := of_decide_eq_false g
  ((conv=>whnf);repeat((first|refine Ct ‹_› ?_|refine Cf ‹_› ?_|refine Ct rfl ?_|refine Cf rfl ?_|refine Bi rfl ?_|refine Bz rfl ?_|refine Lr ?_);conv=>whnf))
  (refine CallQ_some (F_toBoard x0 s0) ?_ ?_ ?_; rfl; rfl); ((conv=>whnf);repeat((first|refine Ct ‹_› ?_|refine Cf ‹_› ?_|refine Ct rfl ?_|refine Cf rfl ?_|refine Bi rfl ?_|refine Bz rfl ?_|refine Lr ?_);conv=>whnf))
  refine CallQ_eq (snapB x0 _) ?_
  (refine CallQ_some (hS) ?_ ?_ ?_; rfl; rfl); ((conv=>whnf);repeat((first|refine Ct ‹_› ?_|refine Cf ‹_› ?_|refine Ct rfl ?_|refine Cf rfl ?_|refine Bi rfl ?_|refine Bz rfl ?_|refine Lr ?_);conv=>whnf))
  (refine CallQ_some (F_toBoard x0 s0) ?_ ?_ ?_; rfl; rfl); ((conv=>whnf);repeat((first|refine Ct ‹_› ?_|refine Cf ‹_› ?_|refine Ct rfl ?_|refine Cf rfl ?_|refine Bi rfl ?_|refine Bz rfl ?_|refine Lr ?_);conv=>whnf))
  refine CallQ_eq (snapB x0 _) ?_
  (refine CallQ_some (hI) ?_ ?_ ?_; rfl; rfl); ((conv=>whnf);repeat((first|refine Ct ‹_› ?_|refine Cf ‹_› ?_|refine Ct rfl ?_|refine Cf rfl ?_|refine Bi rfl ?_|refine Bz rfl ?_|refine Lr ?_);conv=>whnf))
  (refine CallQ_some (F_eqIntSS r0 hr0.1 hr0.2) ?_ ?_ ?_; rfl; rfl); ((conv=>whnf);repeat((first|refine Ct ‹_› ?_|refine Cf ‹_› ?_|refine Ct rfl ?_|refine Cf rfl ?_|refine Bi rfl ?_|refine Bz rfl ?_|refine Lr ?_);conv=>whnf))
  repeat (refine Cnd_f (by simp) ?_; ((conv=>whnf);repeat((first|refine Ct ‹_› ?_|refine Cf ‹_› ?_|refine Ct rfl ?_|refine Cf rfl ?_|refine Bi rfl ?_|refine Bz rfl ?_|refine Lr ?_);conv=>whnf)))
  repeat (refine Cnd_f (by simp) ?_; ((conv=>whnf);repeat((first|refine Ct ‹_› ?_|refine Cf ‹_› ?_|refine Ct rfl ?_|refine Cf rfl ?_|refine Bi rfl ?_|refine Bz rfl ?_|refine Lr ?_);conv=>whnf)))
  (refine CallQ_some (F_toBoard x0 s0) ?_ ?_ ?_; rfl; rfl); ((conv=>whnf);repeat((first|refine Ct ‹_› ?_|refine Cf ‹_› ?_|refine Ct rfl ?_|refine Cf rfl ?_|refine Bi rfl ?_|refine Bz rfl ?_|refine Lr ?_);conv=>whnf))
  refine CallQ_eq (snapBB x0) ?_
  (refine CallQ_some (F_eqBoard x0 s0) ?_ ?_ ?_; rfl; rfl); ((conv=>whnf);repeat((first|refine Ct ‹_› ?_|refine Cf ‹_› ?_|refine Ct rfl ?_|refine Cf rfl ?_|refine Bi rfl ?_|refine Bz rfl ?_|refine Lr ?_);conv=>whnf))
  refine CallR_e (F_markBoard x0 s0 1 (by omega) (by omega)) ?_
  rintro _ _ o' ⟨k0, ka0, kb0, rfl, rfl, hs⟩
  obtain ⟨⟨_, q0⟩, ⟨_, q1⟩, ⟨_, q2⟩, ⟨_, q3⟩, ⟨_, q4⟩, rfl, ⟨⟩, ⟨⟩, ⟨⟩, ⟨⟩, ⟨⟩, tq0, tq1, tq2, tq3, tq4⟩ := shape5 hs
  refine ⟨⟨rfl, tq0.1, tq0.2.1, tq0.2.2, rfl, tq1.1, tq1.2.1, tq1.2.2, rfl, tq2.1, tq2.2.1, tq2.2.2, rfl, tq3.1, tq3.2.1, tq3.2.2, rfl, tq4.1, tq4.2.1, tq4.2.2, trivial⟩, rfl, rfl, ?_⟩
  conv => whnf
  refine ⟨rfl, ?_⟩
  ((conv=>whnf);repeat((first|refine Ct ‹_› ?_|refine Cf ‹_› ?_|refine Ct rfl ?_|refine Cf rfl ?_|refine Bi rfl ?_|refine Bz rfl ?_|refine Lr ?_);conv=>whnf))
  have hkn : decide ((k0 : Int) < 0) = false := decide_eq_false (by omega)
  ((conv=>whnf);repeat((first|refine Ct ‹_› ?_|refine Cf ‹_› ?_|refine Ct rfl ?_|refine Cf rfl ?_|refine Bi rfl ?_|refine Bz rfl ?_|refine Lr ?_);conv=>whnf))
  (refine CallQ_some (F_eqIntSS r0 hr0.1 hr0.2) ?_ ?_ ?_; rfl; rfl); ((conv=>whnf);repeat((first|refine Ct ‹_› ?_|refine Cf ‹_› ?_|refine Ct rfl ?_|refine Cf rfl ?_|refine Bi rfl ?_|refine Bz rfl ?_|refine Lr ?_);conv=>whnf))
  repeat (refine Cnd_f (by simp) ?_; ((conv=>whnf);repeat((first|refine Ct ‹_› ?_|refine Cf ‹_› ?_|refine Ct rfl ?_|refine Cf rfl ?_|refine Bi rfl ?_|refine Bz rfl ?_|refine Lr ?_);conv=>whnf)))
  repeat (refine Cnd_f (by simp) ?_; ((conv=>whnf);repeat((first|refine Ct ‹_› ?_|refine Cf ‹_› ?_|refine Ct rfl ?_|refine Cf rfl ?_|refine Bi rfl ?_|refine Bz rfl ?_|refine Lr ?_);conv=>whnf)))
  have hls := ofs_b hr0 r0.length
  have hls2 : lenSS r0 = ofs r0 r0.length := rfl
  have hls3 := hr0.1
  (refine CallR_some (F_markIntSS r0 1 hr0.1 hr0.2 (by omega) (by omega)) (by repeat (first | exact trivial | refine ⟨rfl, rfl, rfl, rfl, ?_⟩)) ?_ ?_ ?_ ?_; rfl; rfl; rfl); ((conv=>whnf);repeat((first|refine Ct ‹_› ?_|refine Cf ‹_› ?_|refine Ct rfl ?_|refine Cf rfl ?_|refine Bi rfl ?_|refine Bz rfl ?_|refine Lr ?_);conv=>whnf))
  (refine CallQ_some (F_heldIntSS r0 1 hr0.1 hr0.2 (by omega) (by omega)) ?_ ?_ ?_; rfl; rfl); ((conv=>whnf);repeat((first|refine Ct ‹_› ?_|refine Cf ‹_› ?_|refine Ct rfl ?_|refine Cf rfl ?_|refine Bi rfl ?_|refine Bz rfl ?_|refine Lr ?_);conv=>whnf))
  have hq0 : decide (1 + lenSS r0 < 0) = false := decide_eq_false (by omega)
  ((conv=>whnf);repeat((first|refine Ct ‹_› ?_|refine Cf ‹_› ?_|refine Ct rfl ?_|refine Cf rfl ?_|refine Bi rfl ?_|refine Bz rfl ?_|refine Lr ?_);conv=>whnf))
  repeat (refine Cnd_f (by simp) ?_; ((conv=>whnf);repeat((first|refine Ct ‹_› ?_|refine Cf ‹_› ?_|refine Ct rfl ?_|refine Cf rfl ?_|refine Bi rfl ?_|refine Bz rfl ?_|refine Lr ?_);conv=>whnf)))
  (refine CallQ_some (F_toBoard x0 s0) ?_ ?_ ?_; rfl; rfl); ((conv=>whnf);repeat((first|refine Ct ‹_› ?_|refine Cf ‹_› ?_|refine Ct rfl ?_|refine Cf rfl ?_|refine Bi rfl ?_|refine Bz rfl ?_|refine Lr ?_);conv=>whnf))
  refine CallQ_eq (snapB x0 _) ?_
  (refine CallQ_some (hI) ?_ ?_ ?_; rfl; rfl); ((conv=>whnf);repeat((first|refine Ct ‹_› ?_|refine Cf ‹_› ?_|refine Ct rfl ?_|refine Cf rfl ?_|refine Bi rfl ?_|refine Bz rfl ?_|refine Lr ?_);conv=>whnf))
  (refine CallQ_some (F_eqIntSS r0 hr0.1 hr0.2) ?_ ?_ ?_; rfl; rfl); ((conv=>whnf);repeat((first|refine Ct ‹_› ?_|refine Cf ‹_› ?_|refine Ct rfl ?_|refine Cf rfl ?_|refine Bi rfl ?_|refine Bz rfl ?_|refine Lr ?_);conv=>whnf))
  repeat (refine Cnd_f (by simp) ?_; ((conv=>whnf);repeat((first|refine Ct ‹_› ?_|refine Cf ‹_› ?_|refine Ct rfl ?_|refine Cf rfl ?_|refine Bi rfl ?_|refine Bz rfl ?_|refine Lr ?_);conv=>whnf)))
  repeat (refine Cnd_f (by simp) ?_; ((conv=>whnf);repeat((first|refine Ct ‹_› ?_|refine Cf ‹_› ?_|refine Ct rfl ?_|refine Cf rfl ?_|refine Bi rfl ?_|refine Bz rfl ?_|refine Lr ?_);conv=>whnf)))
  (refine CallQ_some (F_heldIntSS r0 1 hr0.1 hr0.2 (by omega) (by omega)) ?_ ?_ ?_; rfl; rfl); ((conv=>whnf);repeat((first|refine Ct ‹_› ?_|refine Cf ‹_› ?_|refine Ct rfl ?_|refine Cf rfl ?_|refine Bi rfl ?_|refine Bz rfl ?_|refine Lr ?_);conv=>whnf))
  repeat (refine Cnd_f (by simp) ?_; ((conv=>whnf);repeat((first|refine Ct ‹_› ?_|refine Cf ‹_› ?_|refine Ct rfl ?_|refine Cf rfl ?_|refine Bi rfl ?_|refine Bz rfl ?_|refine Lr ?_);conv=>whnf)))
  exact ⟨rfl, rfl, rfl⟩
end Go.Proofs.YthaeflammjofeaaDoor.Ab
