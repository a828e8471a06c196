/- Contracts of the functions that FnExactSeenBy reaches, by the abstract machine (part 2).
   Conditions: none. -/
import Derived.Test.YtkflmicnfjfmiaaGreatDoorCSeenBy1
set_option linter.unusedVariables false
set_option linter.unusedSimpArgs false
namespace Go.Proofs.YtkflmicnfjfmiaaGreatDoor.Ab
open Go Go.RowKit
attribute [local irreducible] Cnd Bnd Rw CallQ CallR Bts Isn Lc WLoop
set_option maxRecDepth 100000
set_option maxHeartbeats 1000000
theorem F_nearestTo (q r n : Int) (hn : 1 ≤ n ∧ n ≤ 18) (hq : 0 ≤ q ∧ q ≤ 1000) (hr : 0 ≤ r ∧ r ≤ 1000) (hw : q.tmod n = 0 ∨ r.tmod n = 0 ∨ q.tmod n + r.tmod n = n) :
    Fun E0 144 [vI q, vI r, vI n] [] (.v (.one (.own 0 (ptL q r n).length))) [(0, rwH (ptL q r n))] [] := by
  obtain ⟨e1, e1b, e1c, e1d⟩ := dm hq hn.1
  obtain ⟨e2, e2b, e2c, e2d⟩ := dm hr hn.1
  refine Fun_of_xc k144 rfl rfl (nrC (rwH_no _) nrN) ?_
  ((conv=>whnf);repeat((first|refine Ct ‹_› ?_|refine Cf ‹_› ?_|refine Ct rfl ?_|refine Cf rfl ?_|refine Bi rfl ?_|refine Bz rfl ?_|refine Lr ?_);conv=>whnf))
  refine Rw_i (rwH []) (rwH_nil _) ?_
  ((conv=>whnf);repeat((first|refine Ct ‹_› ?_|refine Cf ‹_› ?_|refine Ct rfl ?_|refine Cf rfl ?_|refine Bi rfl ?_|refine Bz rfl ?_|refine Lr ?_);conv=>whnf))
  refine Rw_i (rwH []) (rwH_nil _) ?_
  ((conv=>whnf);repeat((first|refine Ct ‹_› ?_|refine Cf ‹_› ?_|refine Ct rfl ?_|refine Cf rfl ?_|refine Bi rfl ?_|refine Bz rfl ?_|refine Lr ?_);conv=>whnf))
  (refine CallQ_some (F_floorDiv q n hq hn.1) ?_ ?_ ?_; rfl; rfl); ((conv=>whnf);repeat((first|refine Ct ‹_› ?_|refine Cf ‹_› ?_|refine Ct rfl ?_|refine Cf rfl ?_|refine Bi rfl ?_|refine Bz rfl ?_|refine Lr ?_);conv=>whnf))
  refine WLoop_v3 ⟨[0, 1, 2, 7, 8, 9], [], []⟩ (fun (x y : Int) (out : List Hx) => hdS 80 [(0, .v (vI q)), (1, .v (vI r)), (2, .v (vI n)), (7, .v (.one (.own (vkey 7) out.length))), (8, .v (vI y)), (9, .v (vI x))] [] [(vkey 7, rwH out)])
    (fun m x y out => m ≤ 4 ∧ x = q.tdiv n - 1 + (4 - m : Int) ∧ out = (ngN n (q.tmod n) (r.tmod n) (4 * (4 - m))).1.map (sh q r n) ∧ y = (ngN n (q.tmod n) (r.tmod n) (4 * (4 - m))).2) 4 (q.tdiv n - 1) (-1) [] (by rw [wrapI (by omega)]; rfl) ⟨Nat.le_refl _, by omega, rfl, rfl⟩ ?_
  rintro m x y out ⟨m1, m2, m3, m4⟩
  have hol : out.length ≤ 16 := by have := ngN_le n (q.tmod n) (r.tmod n) (4 * (4 - m)); rw [m3, List.length_map]; omega
  ((conv=>whnf);repeat((first|refine Ct ‹_› ?_|refine Cf ‹_› ?_|refine Ct rfl ?_|refine Cf rfl ?_|refine Bi rfl ?_|refine Bz rfl ?_|refine Lr ?_);conv=>whnf))
  (refine CallQ_some (F_floorDiv q n hq hn.1) ?_ ?_ ?_; rfl; rfl); ((conv=>whnf);repeat((first|refine Ct ‹_› ?_|refine Cf ‹_› ?_|refine Ct rfl ?_|refine Cf rfl ?_|refine Bi rfl ?_|refine Bz rfl ?_|refine Lr ?_);conv=>whnf))
  refine Cnd_e (c' := decide (x ≤ q.tdiv n + 2)) (by rw [wrapI (by omega)]) ?_
  refine Cnd_i (fun g => ?_) (fun g => ?_)
  rotate_left
  · have g := of_decide_eq_false g
    obtain rfl : m = 0 := by omega
    ((conv=>whnf);repeat((first|refine Ct ‹_› ?_|refine Cf ‹_› ?_|refine Ct rfl ?_|refine Cf rfl ?_|refine Bi rfl ?_|refine Bz rfl ?_|refine Lr ?_);conv=>whnf))
    have e0 : out = ptL q r n := by rw [m3]; show List.map _ (ngN n (q.tmod n) (r.tmod n) 16).1 = _; rw [near_ok n _ _ hn ⟨e1c, e1d⟩ ⟨e2c, e2d⟩ hw]; rfl
    rw [e0]
    exact ⟨rfl, rfl, rfl⟩
  have hx := of_decide_eq_true g
  obtain ⟨m, rfl⟩ : ∃ m', m = m' + 1 := ⟨m - 1, by omega⟩
  ((conv=>whnf);repeat((first|refine Ct ‹_› ?_|refine Cf ‹_› ?_|refine Ct rfl ?_|refine Cf rfl ?_|refine Bi rfl ?_|refine Bz rfl ?_|refine Lr ?_);conv=>whnf))
  (refine CallQ_some (F_floorDiv r n hr hn.1) ?_ ?_ ?_; rfl; rfl); ((conv=>whnf);repeat((first|refine Ct ‹_› ?_|refine Cf ‹_› ?_|refine Ct rfl ?_|refine Cf rfl ?_|refine Bi rfl ?_|refine Bz rfl ?_|refine Lr ?_);conv=>whnf))
  refine WLoop_v3 ⟨[0, 1, 2, 7, 8, 9, 10], [], []⟩ (fun (z y : Int) (out : List Hx) => hdS 80 [(0, .v (vI q)), (1, .v (vI r)), (2, .v (vI n)), (7, .v (.one (.own (vkey 7) out.length))), (8, .v (vI y)), (9, .v (vI x)), (10, .v (vI z))] [] [(vkey 7, rwH out)])
    (fun l z y out => l ≤ 4 ∧ z = r.tdiv n - 1 + (4 - l : Int) ∧ out = (ngN n (q.tmod n) (r.tmod n) (4 * (3 - m) + (4 - l))).1.map (sh q r n) ∧ y = (ngN n (q.tmod n) (r.tmod n) (4 * (3 - m) + (4 - l))).2) 4 (r.tdiv n - 1) y out (by rw [wrapI (by omega)]; rfl) ⟨Nat.le_refl _, by omega, by rw [m3, show 4 * (4 - (m + 1)) = 4 * (3 - m) + (4 - 4) by omega], by rw [m4, show 4 * (4 - (m + 1)) = 4 * (3 - m) + (4 - 4) by omega]⟩ ?_
  clear m3 m4 hol y out
  rintro l z y out ⟨l1, l2, l3, l4⟩
  have hol : out.length ≤ 16 := by have := ngN_le n (q.tmod n) (r.tmod n) (4 * (3 - m) + (4 - l)); rw [l3, List.length_map]; omega
  ((conv=>whnf);repeat((first|refine Ct ‹_› ?_|refine Cf ‹_› ?_|refine Ct rfl ?_|refine Cf rfl ?_|refine Bi rfl ?_|refine Bz rfl ?_|refine Lr ?_);conv=>whnf))
  (refine CallQ_some (F_floorDiv r n hr hn.1) ?_ ?_ ?_; rfl; rfl); ((conv=>whnf);repeat((first|refine Ct ‹_› ?_|refine Cf ‹_› ?_|refine Ct rfl ?_|refine Cf rfl ?_|refine Bi rfl ?_|refine Bz rfl ?_|refine Lr ?_);conv=>whnf))
  refine Cnd_e (c' := decide (z ≤ r.tdiv n + 2)) (by rw [wrapI (by omega)]) ?_
  refine Cnd_i (fun g => ?_) (fun g => ?_)
  rotate_left
  · have g := of_decide_eq_false g
    obtain rfl : l = 0 := by omega
    ((conv=>whnf);repeat((first|refine Ct ‹_› ?_|refine Cf ‹_› ?_|refine Ct rfl ?_|refine Cf rfl ?_|refine Bi rfl ?_|refine Bz rfl ?_|refine Lr ?_);conv=>whnf))
    refine ⟨m, x + 1, y, out, ?_, by omega, by omega, by omega, by rw [l3, show 4 * (3 - m) + (4 - 0) = 4 * (4 - m) by omega], by rw [l4, show 4 * (3 - m) + (4 - 0) = 4 * (4 - m) by omega]⟩
    rw [wrapI (by omega)]; rfl
  have hz := of_decide_eq_true g
  obtain ⟨l, rfl⟩ : ∃ l', l = l' + 1 := ⟨l - 1, by omega⟩
  have hfar := far_w (x := x) (y := z) (a := 2 - m) (c := 2 - l) hn hq hr (by omega) (by omega) (by omega) (by omega)
  have hst : ngN n (q.tmod n) (r.tmod n) (4 * (3 - m) + (4 - l)) = ngStep n (q.tmod n) (r.tmod n) (ngN n (q.tmod n) (r.tmod n) (4 * (3 - m) + (4 - (l + 1)))) (2 - m) (2 - l) := by
    rw [show 4 * (3 - m) + (4 - l) = 4 * (3 - m) + (4 - (l + 1)) + 1 by omega, ngN]
    congr 1 <;> omega
  have hsh : sh q r n (2 - (m : Int), 2 - (l : Int)) = (x, z) := by
    show (q.tdiv n + (2 - (m : Int)), r.tdiv n + (2 - (l : Int))) = (x, z)
    rw [show q.tdiv n + (2 - (m : Int)) = x by omega, show r.tdiv n + (2 - (l : Int)) = z by omega]
  generalize ngN n (q.tmod n) (r.tmod n) (4 * (3 - m) + (4 - (l + 1))) = s at *
  obtain ⟨so, sl⟩ := s
  have l4 : y = sl := l4
  have l3 : out = so.map (sh q r n) := l3
  subst l4
  unfold ngStep at hst
  dsimp only at hst
  have hnxt : ∀ (out' : List Hx) (y' : Int), out' = (ngN n (q.tmod n) (r.tmod n) (4 * (3 - m) + (4 - l))).1.map (sh q r n) → y' = (ngN n (q.tmod n) (r.tmod n) (4 * (3 - m) + (4 - l))).2 → l < l + 1 ∧ l ≤ 4 ∧ z + 1 = r.tdiv n - 1 + (4 - l : Int) ∧ out' = (ngN n (q.tmod n) (r.tmod n) (4 * (3 - m) + (4 - l))).1.map (sh q r n) ∧ y' = (ngN n (q.tmod n) (r.tmod n) (4 * (3 - m) + (4 - l))).2 :=
    fun out' y' h1 h2 => ⟨by omega, by omega, by omega, h1, h2⟩
  generalize farO n (q.tmod n) (r.tmod n) (2 - m) (2 - l) = far at hfar hst
  ((conv=>whnf);repeat((first|refine Ct ‹_› ?_|refine Cf ‹_› ?_|refine Ct rfl ?_|refine Cf rfl ?_|refine Bi rfl ?_|refine Bz rfl ?_|refine Lr ?_);conv=>whnf))
  have hput : y < 0 ∨ far < y → True := fun _ => trivial
  refine Cnd_i (fun g5 => ?_) (fun g5 => ?_)
  · have d5 := of_decide_eq_true g5
    rw [if_pos (.inl d5)] at hst
    ((conv=>whnf);repeat((first|refine Ct ‹_› ?_|refine Cf ‹_› ?_|refine Ct rfl ?_|refine Cf rfl ?_|refine Bi rfl ?_|refine Bz rfl ?_|refine Lr ?_);conv=>whnf))
    refine Bnd_i (⟨by omega, by omega, by omega⟩) ?_; ((conv=>whnf);repeat((first|refine Ct ‹_› ?_|refine Cf ‹_› ?_|refine Ct rfl ?_|refine Cf rfl ?_|refine Bi rfl ?_|refine Bz rfl ?_|refine Lr ?_);conv=>whnf))
    refine Rw_i (rwH []) ⟨rfl, rfl, rfl, fun i j hi _ => absurd hi (Nat.not_lt_zero _)⟩ ?_
    ((conv=>whnf);repeat((first|refine Ct ‹_› ?_|refine Cf ‹_› ?_|refine Ct rfl ?_|refine Cf rfl ?_|refine Bi rfl ?_|refine Bz rfl ?_|refine Lr ?_);conv=>whnf))
    refine Cnd_t (by simp) ?_
    ((conv=>whnf);repeat((first|refine Ct ‹_› ?_|refine Cf ‹_› ?_|refine Ct rfl ?_|refine Cf rfl ?_|refine Bi rfl ?_|refine Bz rfl ?_|refine Lr ?_);conv=>whnf))
    refine Rw_self ?_
    ((conv=>whnf);repeat((first|refine Ct ‹_› ?_|refine Cf ‹_› ?_|refine Ct rfl ?_|refine Cf rfl ?_|refine Bi rfl ?_|refine Bz rfl ?_|refine Lr ?_);conv=>whnf))
    refine Bnd_i (by show 0 + 1 < _; omega) ?_
    ((conv=>whnf);repeat((first|refine Ct ‹_› ?_|refine Cf ‹_› ?_|refine Ct rfl ?_|refine Cf rfl ?_|refine Bi rfl ?_|refine Bz rfl ?_|refine Lr ?_);conv=>whnf))
    refine Rw_i (rwH [(x, z)]) (rwH_app [] (x, z) _ (lt2 rfl rfl)) ?_
    ((conv=>whnf);repeat((first|refine Ct ‹_› ?_|refine Cf ‹_› ?_|refine Ct rfl ?_|refine Cf rfl ?_|refine Bi rfl ?_|refine Bz rfl ?_|refine Lr ?_);conv=>whnf))
    refine ⟨l, z + 1, far, [(x, z)], ?_, hnxt _ _ (by rw [hst, List.map_singleton, hsh]) (by rw [hst])⟩
    rw [hfar, wrapI (n := z + 1) (by omega)]; rfl
  · have d5 := of_decide_eq_false g5
    ((conv=>whnf);repeat((first|refine Ct ‹_› ?_|refine Cf ‹_› ?_|refine Ct rfl ?_|refine Cf rfl ?_|refine Bi rfl ?_|refine Bz rfl ?_|refine Lr ?_);conv=>whnf))
    refine Cnd_e (c' := decide (far < y)) (by rw [hfar]) ?_
    refine Cnd_i (fun g6 => ?_) (fun g6 => ?_)
    · have d6 := of_decide_eq_true g6
      rw [if_pos (.inr d6)] at hst
      ((conv=>whnf);repeat((first|refine Ct ‹_› ?_|refine Cf ‹_› ?_|refine Ct rfl ?_|refine Cf rfl ?_|refine Bi rfl ?_|refine Bz rfl ?_|refine Lr ?_);conv=>whnf))
      refine Bnd_i (⟨by omega, by omega, by omega⟩) ?_; ((conv=>whnf);repeat((first|refine Ct ‹_› ?_|refine Cf ‹_› ?_|refine Ct rfl ?_|refine Cf rfl ?_|refine Bi rfl ?_|refine Bz rfl ?_|refine Lr ?_);conv=>whnf))
      refine Rw_i (rwH []) ⟨rfl, rfl, rfl, fun i j hi _ => absurd hi (Nat.not_lt_zero _)⟩ ?_
      ((conv=>whnf);repeat((first|refine Ct ‹_› ?_|refine Cf ‹_› ?_|refine Ct rfl ?_|refine Cf rfl ?_|refine Bi rfl ?_|refine Bz rfl ?_|refine Lr ?_);conv=>whnf))
      refine Cnd_t (by simp) ?_
      ((conv=>whnf);repeat((first|refine Ct ‹_› ?_|refine Cf ‹_› ?_|refine Ct rfl ?_|refine Cf rfl ?_|refine Bi rfl ?_|refine Bz rfl ?_|refine Lr ?_);conv=>whnf))
      refine Rw_self ?_
      ((conv=>whnf);repeat((first|refine Ct ‹_› ?_|refine Cf ‹_› ?_|refine Ct rfl ?_|refine Cf rfl ?_|refine Bi rfl ?_|refine Bz rfl ?_|refine Lr ?_);conv=>whnf))
      refine Bnd_i (by show 0 + 1 < _; omega) ?_
      ((conv=>whnf);repeat((first|refine Ct ‹_› ?_|refine Cf ‹_› ?_|refine Ct rfl ?_|refine Cf rfl ?_|refine Bi rfl ?_|refine Bz rfl ?_|refine Lr ?_);conv=>whnf))
      refine Rw_i (rwH [(x, z)]) (rwH_app [] (x, z) _ (lt2 rfl rfl)) ?_
      ((conv=>whnf);repeat((first|refine Ct ‹_› ?_|refine Cf ‹_› ?_|refine Ct rfl ?_|refine Cf rfl ?_|refine Bi rfl ?_|refine Bz rfl ?_|refine Lr ?_);conv=>whnf))
      refine ⟨l, z + 1, far, [(x, z)], ?_, hnxt _ _ (by rw [hst, List.map_singleton, hsh]) (by rw [hst])⟩
      rw [hfar, wrapI (n := z + 1) (by omega)]; rfl
    · have d6 := of_decide_eq_false g6
      rw [if_neg (by omega)] at hst
      ((conv=>whnf);repeat((first|refine Ct ‹_› ?_|refine Cf ‹_› ?_|refine Ct rfl ?_|refine Cf rfl ?_|refine Bi rfl ?_|refine Bz rfl ?_|refine Lr ?_);conv=>whnf))
      refine Cnd_e (c' := far == y) (by rw [hfar]) ?_
      refine Cnd_i (fun g7 => ?_) (fun g7 => ?_)
      · have d7 : far = y := by simpa using g7
        rw [if_pos d7] at hst
        ((conv=>whnf);repeat((first|refine Ct ‹_› ?_|refine Cf ‹_› ?_|refine Ct rfl ?_|refine Cf rfl ?_|refine Bi rfl ?_|refine Bz rfl ?_|refine Lr ?_);conv=>whnf))
        refine Rw_self ?_
        ((conv=>whnf);repeat((first|refine Ct ‹_› ?_|refine Cf ‹_› ?_|refine Ct rfl ?_|refine Cf rfl ?_|refine Bi rfl ?_|refine Bz rfl ?_|refine Lr ?_);conv=>whnf))
        refine Bnd_i ?_ ?_
        · show out.length + 1 < _
          omega
        ((conv=>whnf);repeat((first|refine Ct ‹_› ?_|refine Cf ‹_› ?_|refine Ct rfl ?_|refine Cf rfl ?_|refine Bi rfl ?_|refine Bz rfl ?_|refine Lr ?_);conv=>whnf))
        refine Rw_i (rwH (out ++ [(x, z)])) (rwH_app _ (x, z) _ (lt2 (by show cI _ = cI _; rfl) (by show cI _ = cI _; rfl))) ?_
        ((conv=>whnf);repeat((first|refine Ct ‹_› ?_|refine Cf ‹_› ?_|refine Ct rfl ?_|refine Cf rfl ?_|refine Bi rfl ?_|refine Bz rfl ?_|refine Lr ?_);conv=>whnf))
        refine ⟨l, z + 1, y, out ++ [(x, z)], ?_, hnxt _ _ (by rw [hst, l3, List.map_append, List.map_singleton, hsh]) (by rw [hst])⟩
        rw [wrapI (by omega)]; rfl
      · have d7 : ¬ far = y := by simpa using g7
        rw [if_neg d7] at hst
        ((conv=>whnf);repeat((first|refine Ct ‹_› ?_|refine Cf ‹_› ?_|refine Ct rfl ?_|refine Cf rfl ?_|refine Bi rfl ?_|refine Bz rfl ?_|refine Lr ?_);conv=>whnf))
        refine ⟨l, z + 1, y, out, ?_, hnxt _ _ (by rw [hst, l3]) (by rw [hst])⟩
        rw [wrapI (by omega)]; rfl

/-- the line from a to b -/
def lnL (aq ar bq br : Int) : List (List Hx) := if dsH aq ar bq br = 0 then [[(aq, ar)]] else (List.range ((dsH aq ar bq br).toNat + 1)).map fun i : Nat => lcL aq ar bq br i

theorem lnL_len {aq ar bq br : Int} (ha : HxB aq ar) (hb : HxB bq br) : (lnL aq ar bq br).length = (dsH aq ar bq br).toNat + 1 ∧ (lnL aq ar bq br).length ≤ 19 := by
  have h := dsH_b ha hb
  unfold lnL
  split
  · rename_i h0; rw [h0]; simp
  · simp; omega

theorem range_succ' {α : Type} (f : Nat → α) (t : Int) (h0 : 0 ≤ t) : (List.range (t + 1).toNat).map f = (List.range t.toNat).map f ++ [f t.toNat] := by
  rw [show (t + 1).toNat = t.toNat + 1 by omega, List.range_succ, List.map_append]; rfl

theorem one_hex (a c : Int) : RowEq (litRow false 2 [[cI a, cI c]]) (rwH [(a, c)]) := by
  refine ⟨rfl, rfl, rfl, fun i j hi hj => ?_⟩
  have hi : i < 1 := hi
  obtain rfl : i = 0 := by omega
  rfl

theorem one_row (l : List Hx) : RowEq ⟨true, 1, 1, fun _ _ => .fr 2 l.length fun i j => nth (hxC (l.getD i (0, 0))) j⟩ (rwHH [l]) := by
  refine ⟨rfl, rfl, rfl, fun i j hi hj => ?_⟩
  have hi : i < 1 := hi
  obtain rfl : i = 0 := by omega
  rfl

theorem F_hLine (aq ar bq br : Int) (ha : HxB aq ar) (hb : HxB bq br) :
    Fun E0 121 [.agg [cI aq, cI ar], .agg [cI bq, cI br]] [] (.v (.one (.own 0 (lnL aq ar bq br).length))) [(0, rwHH (lnL aq ar bq br))] [] := by
  have h18 := dsH_b ha hb
  refine Fun_of_xc k121 rfl rfl (nrC (rwHH_no _) nrN) ?_
  ((conv=>whnf);repeat((first|refine Ct ‹_› ?_|refine Cf ‹_› ?_|refine Ct rfl ?_|refine Cf rfl ?_|refine Bi rfl ?_|refine Bz rfl ?_|refine Lr ?_);conv=>whnf))
  refine Rw_i (rwHH []) (rwHH_nil _) ?_
  ((conv=>whnf);repeat((first|refine Ct ‹_› ?_|refine Cf ‹_› ?_|refine Ct rfl ?_|refine Cf rfl ?_|refine Bi rfl ?_|refine Bz rfl ?_|refine Lr ?_);conv=>whnf))
  (refine CallQ_some (F_hDistance aq ar bq br ha hb) ?_ ?_ ?_; rfl; rfl); ((conv=>whnf);repeat((first|refine Ct ‹_› ?_|refine Cf ‹_› ?_|refine Ct rfl ?_|refine Cf rfl ?_|refine Bi rfl ?_|refine Bz rfl ?_|refine Lr ?_);conv=>whnf))
  refine Cnd_i (fun g => ?_) (fun g => ?_)
  · have h0 : dsH aq ar bq br = 0 := by simpa using g
    ((conv=>whnf);repeat((first|refine Ct ‹_› ?_|refine Cf ‹_› ?_|refine Ct rfl ?_|refine Cf rfl ?_|refine Bi rfl ?_|refine Bz rfl ?_|refine Lr ?_);conv=>whnf))
    refine Rw_i (rwH [(aq, ar)]) (one_hex _ _) ?_
    ((conv=>whnf);repeat((first|refine Ct ‹_› ?_|refine Cf ‹_› ?_|refine Ct rfl ?_|refine Cf rfl ?_|refine Bi rfl ?_|refine Bz rfl ?_|refine Lr ?_);conv=>whnf))
    refine Rw_i (rwHH [[(aq, ar)]]) (one_row _) ?_
    ((conv=>whnf);repeat((first|refine Ct ‹_› ?_|refine Cf ‹_› ?_|refine Ct rfl ?_|refine Cf rfl ?_|refine Bi rfl ?_|refine Bz rfl ?_|refine Lr ?_);conv=>whnf))
    rw [lnL, if_pos h0]
    exact ⟨rfl, rfl, rfl⟩
  have h0 : dsH aq ar bq br ≠ 0 := by simpa using g
  have hn : 1 ≤ dsH aq ar bq br := by omega
  ((conv=>whnf);repeat((first|refine Ct ‹_› ?_|refine Cf ‹_› ?_|refine Ct rfl ?_|refine Cf rfl ?_|refine Bi rfl ?_|refine Bz rfl ?_|refine Lr ?_);conv=>whnf))
  refine Rw_i (rwHH []) (rwHH_nil _) ?_
  ((conv=>whnf);repeat((first|refine Ct ‹_› ?_|refine Cf ‹_› ?_|refine Ct rfl ?_|refine Cf rfl ?_|refine Bi rfl ?_|refine Bz rfl ?_|refine Lr ?_);conv=>whnf))
  refine WLoop_v2 ⟨[2, 3, 5, 6, 7], [2, 3], []⟩ (fun (t : Int) (out : List (List Hx)) => hdS 30 [(2, .v (.one (.box 2 0))), (3, .v (.one (.box 3 0))), (5, .v (vI (dsH aq ar bq br))), (6, .v (.one (.own (vkey 6) out.length))), (7, .v (vI t))] [(2, [cI aq, cI ar]), (3, [cI bq, cI br])] [(vkey 6, rwHH out)])
    (fun n t out => 0 ≤ t ∧ t + n = dsH aq ar bq br + 1 ∧ out = (List.range t.toNat).map fun i : Nat => lcL aq ar bq br i) ((dsH aq ar bq br).toNat + 1) 0 [] rfl ⟨by omega, by omega, rfl⟩ ?_
  rintro n t out ⟨t1, t2, t3⟩
  have hol : out.length ≤ 19 := by rw [t3, List.length_map, List.length_range]; omega
  ((conv=>whnf);repeat((first|refine Ct ‹_› ?_|refine Cf ‹_› ?_|refine Ct rfl ?_|refine Cf rfl ?_|refine Bi rfl ?_|refine Bz rfl ?_|refine Lr ?_);conv=>whnf))
  refine Cnd_i (fun g => ?_) (fun g => ?_)
  · have ht := of_decide_eq_true g
    ((conv=>whnf);repeat((first|refine Ct ‹_› ?_|refine Cf ‹_› ?_|refine Ct rfl ?_|refine Cf rfl ?_|refine Bi rfl ?_|refine Bz rfl ?_|refine Lr ?_);conv=>whnf))
    (refine CallQ_some (F_hCells aq ar bq br t _ ha hb rfl hn (by omega)) ?_ ?_ ?_; rfl; rfl); ((conv=>whnf);repeat((first|refine Ct ‹_› ?_|refine Cf ‹_› ?_|refine Ct rfl ?_|refine Cf rfl ?_|refine Bi rfl ?_|refine Bz rfl ?_|refine Lr ?_);conv=>whnf))
    refine Rw_self ?_
    ((conv=>whnf);repeat((first|refine Ct ‹_› ?_|refine Cf ‹_› ?_|refine Ct rfl ?_|refine Cf rfl ?_|refine Bi rfl ?_|refine Bz rfl ?_|refine Lr ?_);conv=>whnf))
    refine Bnd_i ?_ ?_
    · show out.length + 1 < _
      omega
    ((conv=>whnf);repeat((first|refine Ct ‹_› ?_|refine Cf ‹_› ?_|refine Ct rfl ?_|refine Cf rfl ?_|refine Bi rfl ?_|refine Bz rfl ?_|refine Lr ?_);conv=>whnf))
    refine Rw_i (rwHH (out ++ [lcL aq ar bq br t])) (rwHH_app _ _ _ rfl) ?_
    ((conv=>whnf);repeat((first|refine Ct ‹_› ?_|refine Cf ‹_› ?_|refine Ct rfl ?_|refine Cf rfl ?_|refine Bi rfl ?_|refine Bz rfl ?_|refine Lr ?_);conv=>whnf))
    refine ⟨n - 1, t + 1, out ++ [lcL aq ar bq br t], ?_, by omega, by omega, by omega, ?_⟩
    · rw [wrapI (by omega)]; rfl
    · rw [range_succ' _ t t1, ← t3, show ((t.toNat : Nat) : Int) = t by omega]
  · have ht := of_decide_eq_false g
    ((conv=>whnf);repeat((first|refine Ct ‹_› ?_|refine Cf ‹_› ?_|refine Ct rfl ?_|refine Cf rfl ?_|refine Bi rfl ?_|refine Bz rfl ?_|refine Lr ?_);conv=>whnf))
    rw [lnL, if_neg h0, t3, show t.toNat = (dsH aq ar bq br).toNat + 1 by omega]
    exact ⟨rfl, rfl, rfl⟩

theorem F_lineOf (aq ar bq br : Int) (ha : HxB aq ar) (hb : HxB bq br) :
    Fun E0 131 [.agg [cI aq, cI ar], .agg [cI bq, cI br]] [] (.v (.one (.own 0 (lnL aq ar bq br).length))) [(0, rwHH (lnL aq ar bq br))] [] := by
  have h18 := dsH_b ha hb
  refine Fun_of_xc k131 rfl rfl (nrC (rwHH_no _) nrN) ?_
  ((conv=>whnf);repeat((first|refine Ct ‹_› ?_|refine Cf ‹_› ?_|refine Ct rfl ?_|refine Cf rfl ?_|refine Bi rfl ?_|refine Bz rfl ?_|refine Lr ?_);conv=>whnf))
  refine Rw_i (rwHH []) (rwHH_nil _) ?_
  ((conv=>whnf);repeat((first|refine Ct ‹_› ?_|refine Cf ‹_› ?_|refine Ct rfl ?_|refine Cf rfl ?_|refine Bi rfl ?_|refine Bz rfl ?_|refine Lr ?_);conv=>whnf))
  (refine CallQ_some (F_distance aq ar bq br ha hb) ?_ ?_ ?_; rfl; rfl); ((conv=>whnf);repeat((first|refine Ct ‹_› ?_|refine Cf ‹_› ?_|refine Ct rfl ?_|refine Cf rfl ?_|refine Bi rfl ?_|refine Bz rfl ?_|refine Lr ?_);conv=>whnf))
  refine Cnd_i (fun g => ?_) (fun g => ?_)
  · have h0 : dsH aq ar bq br = 0 := by simpa using g
    ((conv=>whnf);repeat((first|refine Ct ‹_› ?_|refine Cf ‹_› ?_|refine Ct rfl ?_|refine Cf rfl ?_|refine Bi rfl ?_|refine Bz rfl ?_|refine Lr ?_);conv=>whnf))
    refine Rw_i (rwH [(aq, ar)]) (one_hex _ _) ?_
    ((conv=>whnf);repeat((first|refine Ct ‹_› ?_|refine Cf ‹_› ?_|refine Ct rfl ?_|refine Cf rfl ?_|refine Bi rfl ?_|refine Bz rfl ?_|refine Lr ?_);conv=>whnf))
    refine Rw_i (rwHH [[(aq, ar)]]) (one_row _) ?_
    ((conv=>whnf);repeat((first|refine Ct ‹_› ?_|refine Cf ‹_› ?_|refine Ct rfl ?_|refine Cf rfl ?_|refine Bi rfl ?_|refine Bz rfl ?_|refine Lr ?_);conv=>whnf))
    rw [lnL, if_pos h0]
    exact ⟨rfl, rfl, rfl⟩
  have h0 : dsH aq ar bq br ≠ 0 := by simpa using g
  have hn : 1 ≤ dsH aq ar bq br := by omega
  ((conv=>whnf);repeat((first|refine Ct ‹_› ?_|refine Cf ‹_› ?_|refine Ct rfl ?_|refine Cf rfl ?_|refine Bi rfl ?_|refine Bz rfl ?_|refine Lr ?_);conv=>whnf))
  refine Rw_i (rwHH []) (rwHH_nil _) ?_
  ((conv=>whnf);repeat((first|refine Ct ‹_› ?_|refine Cf ‹_› ?_|refine Ct rfl ?_|refine Cf rfl ?_|refine Bi rfl ?_|refine Bz rfl ?_|refine Lr ?_);conv=>whnf))
  refine WLoop_v2 ⟨[2, 3, 5, 6, 7], [2, 3], []⟩ (fun (t : Int) (out : List (List Hx)) => hdS 52 [(2, .v (.one (.box 2 0))), (3, .v (.one (.box 3 0))), (5, .v (vI (dsH aq ar bq br))), (6, .v (.one (.own (vkey 6) out.length))), (7, .v (vI t))] [(2, [cI aq, cI ar]), (3, [cI bq, cI br])] [(vkey 6, rwHH out)])
    (fun n t out => 0 ≤ t ∧ t + n = dsH aq ar bq br + 1 ∧ out = (List.range t.toNat).map fun i : Nat => lcL aq ar bq br i) ((dsH aq ar bq br).toNat + 1) 0 [] rfl ⟨by omega, by omega, rfl⟩ ?_
  rintro n t out ⟨t1, t2, t3⟩
  have hol : out.length ≤ 19 := by rw [t3, List.length_map, List.length_range]; omega
  ((conv=>whnf);repeat((first|refine Ct ‹_› ?_|refine Cf ‹_› ?_|refine Ct rfl ?_|refine Cf rfl ?_|refine Bi rfl ?_|refine Bz rfl ?_|refine Lr ?_);conv=>whnf))
  refine Cnd_i (fun g => ?_) (fun g => ?_)
  · have ht := of_decide_eq_true g
    ((conv=>whnf);repeat((first|refine Ct ‹_› ?_|refine Cf ‹_› ?_|refine Ct rfl ?_|refine Cf rfl ?_|refine Bi rfl ?_|refine Bz rfl ?_|refine Lr ?_);conv=>whnf))
    have q1 := lnQ_b ha.q hb.q (i := t) (n := dsH aq ar bq br) (by omega) (by omega)
    have r1 := lnQ_b ha.r hb.r (i := t) (n := dsH aq ar bq br) (by omega) (by omega)
    refine CallQ_eq (show _ = [vI (lnQ aq bq t (dsH aq ar bq br)), vI (lnQ ar br t (dsH aq ar bq br)), vI (dsH aq ar bq br)] by rw [lnQ_w2 ha.q hb.q (by omega) (by omega), lnQ_w2 ha.r hb.r (by omega) (by omega)]) ?_
    (refine CallQ_some (F_nearestTo _ _ _ (by omega) (by omega) (by omega) (ln_whole ha hb (by omega) hn)) ?_ ?_ ?_; rfl; rfl); ((conv=>whnf);repeat((first|refine Ct ‹_› ?_|refine Cf ‹_› ?_|refine Ct rfl ?_|refine Cf rfl ?_|refine Bi rfl ?_|refine Bz rfl ?_|refine Lr ?_);conv=>whnf))
    rw [← show lcL aq ar bq br t = ptL (lnQ aq bq t (dsH aq ar bq br)) (lnQ ar br t (dsH aq ar bq br)) (dsH aq ar bq br) from rfl]
    refine Rw_self ?_
    ((conv=>whnf);repeat((first|refine Ct ‹_› ?_|refine Cf ‹_› ?_|refine Ct rfl ?_|refine Cf rfl ?_|refine Bi rfl ?_|refine Bz rfl ?_|refine Lr ?_);conv=>whnf))
    refine Bnd_i ?_ ?_
    · show out.length + 1 < _
      omega
    ((conv=>whnf);repeat((first|refine Ct ‹_› ?_|refine Cf ‹_› ?_|refine Ct rfl ?_|refine Cf rfl ?_|refine Bi rfl ?_|refine Bz rfl ?_|refine Lr ?_);conv=>whnf))
    refine Rw_i (rwHH (out ++ [lcL aq ar bq br t])) (rwHH_app _ _ _ rfl) ?_
    ((conv=>whnf);repeat((first|refine Ct ‹_› ?_|refine Cf ‹_› ?_|refine Ct rfl ?_|refine Cf rfl ?_|refine Bi rfl ?_|refine Bz rfl ?_|refine Lr ?_);conv=>whnf))
    refine ⟨n - 1, t + 1, out ++ [lcL aq ar bq br t], ?_, by omega, by omega, by omega, ?_⟩
    · rw [wrapI (by omega)]; rfl
    · rw [range_succ' _ t t1, ← t3, show ((t.toNat : Nat) : Int) = t by omega]
  · have ht := of_decide_eq_false g
    ((conv=>whnf);repeat((first|refine Ct ‹_› ?_|refine Cf ‹_› ?_|refine Ct rfl ?_|refine Cf rfl ?_|refine Bi rfl ?_|refine Bz rfl ?_|refine Lr ?_);conv=>whnf))
    rw [lnL, if_neg h0, t3, show t.toNat = (dsH aq ar bq br).toNat + 1 by omega]
    exact ⟨rfl, rfl, rfl⟩

/-- a place of a map, as its indices -/
theorem hx_b {m : Map} (h : WH m) {i : Int} (h0 : 0 ≤ i) (h1 : i < m.w * m.h) : HxB (i.tmod m.w) (i.tdiv m.w) := by
  have hw := h.w1; have hw2 := h.w2; have hh2 := h.h2; have hm := h.mul
  have h3 := tdiv_b (i := i) (w := m.w) h0 (by omega) hw
  refine ⟨⟨h3.2.2.1, by omega⟩, h3.1, ?_⟩
  have h4 := Int.mul_tdiv_add_tmod i m.w
  by_cases e : i.tdiv m.w ≤ 9
  · exact e
  · have h5 : m.w * 10 ≤ m.w * i.tdiv m.w := Int.mul_le_mul_of_nonneg_left (by omega) (by omega)
    have h6 : m.w * m.h ≤ m.w * 10 := Int.mul_le_mul_of_nonneg_left hh2 (by omega)
    omega

def lnM (m : Map) (i k : Int) : List (List Hx) := lnL (i.tmod m.w) (i.tdiv m.w) (k.tmod m.w) (k.tdiv m.w)

/-- the places between two places of a map -/
def ceL (m : Map) (i k : Int) : List (List Int) := (List.range ((lnM m i k).length - 2)).map fun t : Nat => ((lnM m i k).getD (t + 1) []).map fun p => ix m p.1 p.2

theorem lnM_sub {m : Map} (h : WH m) {i k : Int} (hi : 0 ≤ i ∧ i < m.w * m.h) (hk : 0 ≤ k ∧ k < m.w * m.h) : 1 ≤ (lnM m i k).length ∧ (lnM m i k).length ≤ 19 ∧ ∀ l ∈ lnM m i k, l.length ≤ 2 := by
  have h1 := lnL_len (hx_b h hi.1 hi.2) (hx_b h hk.1 hk.2)
  refine ⟨by show 1 ≤ (lnL _ _ _ _).length; omega, h1.2, fun l hl => ?_⟩
  unfold lnM lnL at hl
  split at hl
  · simp at hl; rw [hl]; simp
  · obtain ⟨_, _, he⟩ := List.mem_map.1 hl
    rw [← he]; exact ptL_len _ _ _

theorem ceL_len {m : Map} (h : WH m) {i k : Int} (hi : 0 ≤ i ∧ i < m.w * m.h) (hk : 0 ≤ k ∧ k < m.w * m.h) : (ceL m i k).length ≤ 17 ∧ ∀ l ∈ ceL m i k, l.length ≤ 2 := by
  have h1 := lnM_sub h hi hk
  constructor
  · unfold ceL
    rw [List.length_map, List.length_range]
    omega
  · intro l hl
    obtain ⟨t, ht, rfl⟩ := List.mem_map.1 hl
    rw [List.length_map]
    have ht := List.mem_range.1 ht
    exact h1.2.2 _ (by have := getD_memT (l := lnM m i k) (d := []) (i := ((t + 1 : Nat) : Int)) (by omega) (by omega); exact this)

theorem F_vCells (b : Brd) (h : GB b) (i k : Int) (hi : 0 ≤ i ∧ i < b.m.ter.length) (hk : 0 ≤ k ∧ k < b.m.ter.length) :
    Fun E0 105 [.agg b.cs, vI i, vI k] [] (.v (.one (.own 0 (ceL b.m i k).length))) [(0, rwLL (ceL b.m i k))] [] := by
  have hm := h.wh.mul
  have hn := h.n
  have hs := lnM_sub h.wh (i := i) (k := k) (by omega) (by omega)
  have bi := hx_b h.wh (i := i) hi.1 (by omega)
  have bk := hx_b h.wh (i := k) hk.1 (by omega)
  have hc := ceL_len h.wh (i := i) (k := k) (by omega) (by omega)
  refine Fun_of_xc k105 rfl rfl (nrC (rwLL_no _) nrN) ?_
  ((conv=>whnf);repeat((first|refine Ct ‹_› ?_|refine Cf ‹_› ?_|refine Ct rfl ?_|refine Cf rfl ?_|refine Bi rfl ?_|refine Bz rfl ?_|refine Lr ?_);conv=>whnf))
  refine Rw_i (rwLL []) (rwLL_nil _) ?_
  ((conv=>whnf);repeat((first|refine Ct ‹_› ?_|refine Cf ‹_› ?_|refine Ct rfl ?_|refine Cf rfl ?_|refine Bi rfl ?_|refine Bz rfl ?_|refine Lr ?_);conv=>whnf))
  (refine CallQ_some (F_mHex b.m h.wh i hi.1 (by omega)) ?_ ?_ ?_; rfl; rfl); ((conv=>whnf);repeat((first|refine Ct ‹_› ?_|refine Cf ‹_› ?_|refine Ct rfl ?_|refine Cf rfl ?_|refine Bi rfl ?_|refine Bz rfl ?_|refine Lr ?_);conv=>whnf))
  (refine CallQ_some (F_mHex b.m h.wh k hk.1 (by omega)) ?_ ?_ ?_; rfl; rfl); ((conv=>whnf);repeat((first|refine Ct ‹_› ?_|refine Cf ‹_› ?_|refine Ct rfl ?_|refine Cf rfl ?_|refine Bi rfl ?_|refine Bz rfl ?_|refine Lr ?_);conv=>whnf))
  (refine CallQ_some (F_hLine _ _ _ _ bi bk) ?_ ?_ ?_; rfl; rfl); ((conv=>whnf);repeat((first|refine Ct ‹_› ?_|refine Cf ‹_› ?_|refine Ct rfl ?_|refine Cf rfl ?_|refine Bi rfl ?_|refine Bz rfl ?_|refine Lr ?_);conv=>whnf))
  refine Rw_i (rwLL []) (rwLL_nil _) ?_
  ((conv=>whnf);repeat((first|refine Ct ‹_› ?_|refine Cf ‹_› ?_|refine Ct rfl ?_|refine Cf rfl ?_|refine Bi rfl ?_|refine Bz rfl ?_|refine Lr ?_);conv=>whnf))
  have hce : ceL b.m i k = (List.range ((lnM b.m i k).length - 2)).map fun t : Nat => ((lnM b.m i k).getD (t + 1) []).map fun p => ix b.m p.1 p.2 := rfl
  rw [hce]
  rw [← show lnM b.m i k = lnL (i.tmod b.m.w) (i.tdiv b.m.w) (k.tmod b.m.w) (k.tdiv b.m.w) from rfl]
  generalize lnM b.m i k = L at hs ⊢
  clear hce hc
  obtain ⟨s1, s2, s3⟩ := hs
  refine WLoop_v2 ⟨[3, 7, 8, 9], [3], []⟩ (fun (t : Int) (out : List (List Int)) => hdS 51 [(3, .v (.one (.box 3 0))), (7, .v (.one (.own (vkey 7) L.length))), (8, .v (.one (.own (vkey 8) out.length))), (9, .v (vI t))] [(3, b.cs)] [(vkey 7, rwHH L), (vkey 8, rwLL out)])
    (fun n t out => 1 ≤ t ∧ t - 1 + n = ((L.length - 2 : Nat) : Int) ∧ out = (List.range (t - 1).toNat).map fun t : Nat => (L.getD (t + 1) []).map fun p => ix b.m p.1 p.2) (L.length - 2) 1 [] rfl ⟨by omega, by omega, rfl⟩ ?_
  rintro n t out ⟨t1, t2, t3⟩
  have hol : out.length ≤ 19 := by rw [t3, List.length_map, List.length_range]; omega
  ((conv=>whnf);repeat((first|refine Ct ‹_› ?_|refine Cf ‹_› ?_|refine Ct rfl ?_|refine Cf rfl ?_|refine Bi rfl ?_|refine Bz rfl ?_|refine Lr ?_);conv=>whnf))
  refine Cnd_e (c' := decide (t < (L.length : Int) - 1)) (by rw [wrapI (by omega)]) ?_
  refine Cnd_i (fun g => ?_) (fun g => ?_)
  rotate_left
  · have ht := of_decide_eq_false g
    ((conv=>whnf);repeat((first|refine Ct ‹_› ?_|refine Cf ‹_› ?_|refine Ct rfl ?_|refine Cf rfl ?_|refine Bi rfl ?_|refine Bz rfl ?_|refine Lr ?_);conv=>whnf))
    rw [t3, show (t - 1).toNat = L.length - 2 by omega]
    exact ⟨rfl, rfl, rfl⟩
  have ht := of_decide_eq_true g
  have hl2 : (L.getD t.toNat []).length ≤ 2 := s3 _ (getD_memT (d := []) (by omega) (by omega))
  ((conv=>whnf);repeat((first|refine Ct ‹_› ?_|refine Cf ‹_› ?_|refine Ct rfl ?_|refine Cf rfl ?_|refine Bi rfl ?_|refine Bz rfl ?_|refine Lr ?_);conv=>whnf))
  refine Rw_i (rwI []) (rwI_nil _) ?_
  ((conv=>whnf);repeat((first|refine Ct ‹_› ?_|refine Cf ‹_› ?_|refine Ct rfl ?_|refine Cf rfl ?_|refine Bi rfl ?_|refine Bz rfl ?_|refine Lr ?_);conv=>whnf))
  refine Bnd_i (⟨by omega, by omega⟩) ?_; ((conv=>whnf);repeat((first|refine Ct ‹_› ?_|refine Cf ‹_› ?_|refine Ct rfl ?_|refine Cf rfl ?_|refine Bi rfl ?_|refine Bz rfl ?_|refine Lr ?_);conv=>whnf))
  refine WLoop_v2 ⟨[3, 7, 8, 9, 10, 33, 34], [3], [(32, 7)]⟩ (fun (j : Int) (cell : List Int) => hdS 51 [(3, .v (.one (.box 3 0))), (7, .v (.one (.own (vkey 7) L.length))), (8, .v (.one (.own (vkey 8) out.length))), (9, .v (vI t)), (10, .v (.one (.own (vkey 10) cell.length))), (32, .v (.one (.own1 (vkey 7) t.toNat 0 (L.getD t.toNat []).length))), (33, .v (vI (L.getD t.toNat []).length)), (34, .v (vI j))] [(3, b.cs)] [(vkey 7, rwHH L), (vkey 8, rwLL out), (vkey 10, rwI cell)])
    (fun n j cell => 0 ≤ j ∧ j + n = (L.getD t.toNat []).length ∧ cell = ((L.getD t.toNat []).take j.toNat).map fun p => ix b.m p.1 p.2) (L.getD t.toNat []).length 0 [] rfl ⟨by omega, by omega, rfl⟩ ?_
  rintro l j cell ⟨j1, j2, j3⟩
  have hcl : cell.length ≤ 2 := by rw [j3, List.length_map, List.length_take]; omega
  ((conv=>whnf);repeat((first|refine Ct ‹_› ?_|refine Cf ‹_› ?_|refine Ct rfl ?_|refine Cf rfl ?_|refine Bi rfl ?_|refine Bz rfl ?_|refine Lr ?_);conv=>whnf))
  refine Cnd_i (fun g2 => ?_) (fun g2 => ?_)
  · have hj := of_decide_eq_true g2
    ((conv=>whnf);repeat((first|refine Ct ‹_› ?_|refine Cf ‹_› ?_|refine Ct rfl ?_|refine Cf rfl ?_|refine Bi rfl ?_|refine Bz rfl ?_|refine Lr ?_);conv=>whnf))
    refine Bnd_i (⟨j1, hj⟩) ?_; ((conv=>whnf);repeat((first|refine Ct ‹_› ?_|refine Cf ‹_› ?_|refine Ct rfl ?_|refine Cf rfl ?_|refine Bi rfl ?_|refine Bz rfl ?_|refine Lr ?_);conv=>whnf))
    (refine CallQ_some (F_mIndex b.m h.wh _ _) ?_ ?_ ?_; rfl; rfl); ((conv=>whnf);repeat((first|refine Ct ‹_› ?_|refine Cf ‹_› ?_|refine Ct rfl ?_|refine Cf rfl ?_|refine Bi rfl ?_|refine Bz rfl ?_|refine Lr ?_);conv=>whnf))
    refine Rw_self ?_
    ((conv=>whnf);repeat((first|refine Ct ‹_› ?_|refine Cf ‹_› ?_|refine Ct rfl ?_|refine Cf rfl ?_|refine Bi rfl ?_|refine Bz rfl ?_|refine Lr ?_);conv=>whnf))
    refine Bnd_i ?_ ?_
    · show cell.length + 1 < _
      omega
    ((conv=>whnf);repeat((first|refine Ct ‹_› ?_|refine Cf ‹_› ?_|refine Ct rfl ?_|refine Cf rfl ?_|refine Bi rfl ?_|refine Bz rfl ?_|refine Lr ?_);conv=>whnf))
    refine Rw_i (rwI (cell ++ [ix b.m ((L.getD t.toNat []).getD j.toNat (0, 0)).1 ((L.getD t.toNat []).getD j.toNat (0, 0)).2])) (rwI_app _ _ _ rfl) ?_
    ((conv=>whnf);repeat((first|refine Ct ‹_› ?_|refine Cf ‹_› ?_|refine Ct rfl ?_|refine Cf rfl ?_|refine Bi rfl ?_|refine Bz rfl ?_|refine Lr ?_);conv=>whnf))
    refine ⟨l - 1, j + 1, cell ++ [ix b.m ((L.getD t.toNat []).getD j.toNat (0, 0)).1 ((L.getD t.toNat []).getD j.toNat (0, 0)).2], ?_, by omega, by omega, by omega, ?_⟩
    · rw [wrapI (by omega)]; rfl
    · rw [map_take _ _ (0, 0) j1 hj, ← j3]
  · have hj := of_decide_eq_false g2
    ((conv=>whnf);repeat((first|refine Ct ‹_› ?_|refine Cf ‹_› ?_|refine Ct rfl ?_|refine Cf rfl ?_|refine Bi rfl ?_|refine Bz rfl ?_|refine Lr ?_);conv=>whnf))
    rw [show j.toNat = (L.getD t.toNat []).length by omega, List.take_length] at j3
    subst j3
    refine Rw_self ?_
    ((conv=>whnf);repeat((first|refine Ct ‹_› ?_|refine Cf ‹_› ?_|refine Ct rfl ?_|refine Cf rfl ?_|refine Bi rfl ?_|refine Bz rfl ?_|refine Lr ?_);conv=>whnf))
    refine Bnd_i ?_ ?_
    · show out.length + 1 < _
      omega
    ((conv=>whnf);repeat((first|refine Ct ‹_› ?_|refine Cf ‹_› ?_|refine Ct rfl ?_|refine Cf rfl ?_|refine Bi rfl ?_|refine Bz rfl ?_|refine Lr ?_);conv=>whnf))
    refine Rw_i (rwLL (out ++ [(L.getD t.toNat []).map fun p => ix b.m p.1 p.2])) (rwLL_app _ _ _ rfl) ?_
    ((conv=>whnf);repeat((first|refine Ct ‹_› ?_|refine Cf ‹_› ?_|refine Ct rfl ?_|refine Cf rfl ?_|refine Bi rfl ?_|refine Bz rfl ?_|refine Lr ?_);conv=>whnf))
    refine ⟨n - 1, t + 1, out ++ [(L.getD t.toNat []).map fun p => ix b.m p.1 p.2], ?_, by omega, by omega, by omega, ?_⟩
    · rw [wrapI (by omega)]; rfl
    · rw [show (t + 1 - 1).toNat = (t - 1 + 1).toNat by omega, range_succ' _ (t - 1) (by omega), ← t3, show (t - 1).toNat + 1 = t.toNat by omega]

theorem F_sightCells (b : Brd) (h : GB b) (i k : Int) (hi : 0 ≤ i ∧ i < b.m.ter.length) (hk : 0 ≤ k ∧ k < b.m.ter.length) :
    Fun E0 112 [.agg b.cs, vI i, vI k] [] (.v (.one (.own 0 (ceL b.m i k).length))) [(0, rwLL (ceL b.m i k))] [] := by
  have hm := h.wh.mul
  have hn := h.n
  have hs := lnM_sub h.wh (i := i) (k := k) (by omega) (by omega)
  have bi := hx_b h.wh (i := i) hi.1 (by omega)
  have bk := hx_b h.wh (i := k) hk.1 (by omega)
  have hc := ceL_len h.wh (i := i) (k := k) (by omega) (by omega)
  refine Fun_of_xc k112 rfl rfl (nrC (rwLL_no _) nrN) ?_
  ((conv=>whnf);repeat((first|refine Ct ‹_› ?_|refine Cf ‹_› ?_|refine Ct rfl ?_|refine Cf rfl ?_|refine Bi rfl ?_|refine Bz rfl ?_|refine Lr ?_);conv=>whnf))
  refine Rw_i (rwLL []) (rwLL_nil _) ?_
  ((conv=>whnf);repeat((first|refine Ct ‹_› ?_|refine Cf ‹_› ?_|refine Ct rfl ?_|refine Cf rfl ?_|refine Bi rfl ?_|refine Bz rfl ?_|refine Lr ?_);conv=>whnf))
  refine Rw_i (rwLL []) (rwLL_nil _) ?_
  ((conv=>whnf);repeat((first|refine Ct ‹_› ?_|refine Cf ‹_› ?_|refine Ct rfl ?_|refine Cf rfl ?_|refine Bi rfl ?_|refine Bz rfl ?_|refine Lr ?_);conv=>whnf))
  (refine CallQ_some (F_hexOf b.m h.wh i hi.1 (by omega)) ?_ ?_ ?_; rfl; rfl); ((conv=>whnf);repeat((first|refine Ct ‹_› ?_|refine Cf ‹_› ?_|refine Ct rfl ?_|refine Cf rfl ?_|refine Bi rfl ?_|refine Bz rfl ?_|refine Lr ?_);conv=>whnf))
  (refine CallQ_some (F_hexOf b.m h.wh k hk.1 (by omega)) ?_ ?_ ?_; rfl; rfl); ((conv=>whnf);repeat((first|refine Ct ‹_› ?_|refine Cf ‹_› ?_|refine Ct rfl ?_|refine Cf rfl ?_|refine Bi rfl ?_|refine Bz rfl ?_|refine Lr ?_);conv=>whnf))
  (refine CallQ_some (F_lineOf _ _ _ _ bi bk) ?_ ?_ ?_; rfl; rfl); ((conv=>whnf);repeat((first|refine Ct ‹_› ?_|refine Cf ‹_› ?_|refine Ct rfl ?_|refine Cf rfl ?_|refine Bi rfl ?_|refine Bz rfl ?_|refine Lr ?_);conv=>whnf))
  have hce : ceL b.m i k = (List.range ((lnM b.m i k).length - 2)).map fun t : Nat => ((lnM b.m i k).getD (t + 1) []).map fun p => ix b.m p.1 p.2 := rfl
  rw [hce]
  rw [← show lnM b.m i k = lnL (i.tmod b.m.w) (i.tdiv b.m.w) (k.tmod b.m.w) (k.tdiv b.m.w) from rfl]
  generalize lnM b.m i k = L at hs ⊢
  clear hce hc
  obtain ⟨s1, s2, s3⟩ := hs
  refine WLoop_v2 ⟨[3, 7, 8, 9], [3], []⟩ (fun (t : Int) (out : List (List Int)) => hdS 53 [(3, .v (.one (.box 3 0))), (7, .v (.one (.own (vkey 7) out.length))), (8, .v (.one (.own (vkey 8) L.length))), (9, .v (vI t))] [(3, b.cs)] [(vkey 7, rwLL out), (vkey 8, rwHH L)])
    (fun n t out => 1 ≤ t ∧ t - 1 + n = ((L.length - 2 : Nat) : Int) ∧ out = (List.range (t - 1).toNat).map fun t : Nat => (L.getD (t + 1) []).map fun p => ix b.m p.1 p.2) (L.length - 2) 1 [] rfl ⟨by omega, by omega, rfl⟩ ?_
  rintro n t out ⟨t1, t2, t3⟩
  have hol : out.length ≤ 19 := by rw [t3, List.length_map, List.length_range]; omega
  ((conv=>whnf);repeat((first|refine Ct ‹_› ?_|refine Cf ‹_› ?_|refine Ct rfl ?_|refine Cf rfl ?_|refine Bi rfl ?_|refine Bz rfl ?_|refine Lr ?_);conv=>whnf))
  refine Cnd_e (c' := decide (t + 1 < (L.length : Int))) (by rw [wrapI (by omega)]) ?_
  refine Cnd_i (fun g => ?_) (fun g => ?_)
  rotate_left
  · have ht := of_decide_eq_false g
    ((conv=>whnf);repeat((first|refine Ct ‹_› ?_|refine Cf ‹_› ?_|refine Ct rfl ?_|refine Cf rfl ?_|refine Bi rfl ?_|refine Bz rfl ?_|refine Lr ?_);conv=>whnf))
    rw [t3, show (t - 1).toNat = L.length - 2 by omega]
    exact ⟨rfl, rfl, rfl⟩
  have ht := of_decide_eq_true g
  have hl2 : (L.getD t.toNat []).length ≤ 2 := s3 _ (getD_memT (d := []) (by omega) (by omega))
  ((conv=>whnf);repeat((first|refine Ct ‹_› ?_|refine Cf ‹_› ?_|refine Ct rfl ?_|refine Cf rfl ?_|refine Bi rfl ?_|refine Bz rfl ?_|refine Lr ?_);conv=>whnf))
  refine Rw_i (rwI []) (rwI_nil _) ?_
  ((conv=>whnf);repeat((first|refine Ct ‹_› ?_|refine Cf ‹_› ?_|refine Ct rfl ?_|refine Cf rfl ?_|refine Bi rfl ?_|refine Bz rfl ?_|refine Lr ?_);conv=>whnf))
  refine Bnd_i (⟨by omega, by omega⟩) ?_; ((conv=>whnf);repeat((first|refine Ct ‹_› ?_|refine Cf ‹_› ?_|refine Ct rfl ?_|refine Cf rfl ?_|refine Bi rfl ?_|refine Bz rfl ?_|refine Lr ?_);conv=>whnf))
  refine WLoop_v2 ⟨[3, 7, 8, 9, 10, 35, 36], [3], [(34, 8)]⟩ (fun (j : Int) (cell : List Int) => hdS 53 [(3, .v (.one (.box 3 0))), (7, .v (.one (.own (vkey 7) out.length))), (8, .v (.one (.own (vkey 8) L.length))), (9, .v (vI t)), (10, .v (.one (.own (vkey 10) cell.length))), (34, .v (.one (.own1 (vkey 8) t.toNat 0 (L.getD t.toNat []).length))), (35, .v (vI (L.getD t.toNat []).length)), (36, .v (vI j))] [(3, b.cs)] [(vkey 7, rwLL out), (vkey 8, rwHH L), (vkey 10, rwI cell)])
    (fun n j cell => 0 ≤ j ∧ j + n = (L.getD t.toNat []).length ∧ cell = ((L.getD t.toNat []).take j.toNat).map fun p => ix b.m p.1 p.2) (L.getD t.toNat []).length 0 [] rfl ⟨by omega, by omega, rfl⟩ ?_
  rintro l j cell ⟨j1, j2, j3⟩
  have hcl : cell.length ≤ 2 := by rw [j3, List.length_map, List.length_take]; omega
  ((conv=>whnf);repeat((first|refine Ct ‹_› ?_|refine Cf ‹_› ?_|refine Ct rfl ?_|refine Cf rfl ?_|refine Bi rfl ?_|refine Bz rfl ?_|refine Lr ?_);conv=>whnf))
  refine Cnd_i (fun g2 => ?_) (fun g2 => ?_)
  · have hj := of_decide_eq_true g2
    ((conv=>whnf);repeat((first|refine Ct ‹_› ?_|refine Cf ‹_› ?_|refine Ct rfl ?_|refine Cf rfl ?_|refine Bi rfl ?_|refine Bz rfl ?_|refine Lr ?_);conv=>whnf))
    refine Bnd_i (⟨j1, hj⟩) ?_; ((conv=>whnf);repeat((first|refine Ct ‹_› ?_|refine Cf ‹_› ?_|refine Ct rfl ?_|refine Cf rfl ?_|refine Bi rfl ?_|refine Bz rfl ?_|refine Lr ?_);conv=>whnf))
    (refine CallQ_some (F_indexOf b.m h.wh _ _) ?_ ?_ ?_; rfl; rfl); ((conv=>whnf);repeat((first|refine Ct ‹_› ?_|refine Cf ‹_› ?_|refine Ct rfl ?_|refine Cf rfl ?_|refine Bi rfl ?_|refine Bz rfl ?_|refine Lr ?_);conv=>whnf))
    refine Rw_self ?_
    ((conv=>whnf);repeat((first|refine Ct ‹_› ?_|refine Cf ‹_› ?_|refine Ct rfl ?_|refine Cf rfl ?_|refine Bi rfl ?_|refine Bz rfl ?_|refine Lr ?_);conv=>whnf))
    refine Bnd_i ?_ ?_
    · show cell.length + 1 < _
      omega
    ((conv=>whnf);repeat((first|refine Ct ‹_› ?_|refine Cf ‹_› ?_|refine Ct rfl ?_|refine Cf rfl ?_|refine Bi rfl ?_|refine Bz rfl ?_|refine Lr ?_);conv=>whnf))
    refine Rw_i (rwI (cell ++ [ix b.m ((L.getD t.toNat []).getD j.toNat (0, 0)).1 ((L.getD t.toNat []).getD j.toNat (0, 0)).2])) (rwI_app _ _ _ rfl) ?_
    ((conv=>whnf);repeat((first|refine Ct ‹_› ?_|refine Cf ‹_› ?_|refine Ct rfl ?_|refine Cf rfl ?_|refine Bi rfl ?_|refine Bz rfl ?_|refine Lr ?_);conv=>whnf))
    refine ⟨l - 1, j + 1, cell ++ [ix b.m ((L.getD t.toNat []).getD j.toNat (0, 0)).1 ((L.getD t.toNat []).getD j.toNat (0, 0)).2], ?_, by omega, by omega, by omega, ?_⟩
    · rw [wrapI (by omega)]; rfl
    · rw [map_take _ _ (0, 0) j1 hj, ← j3]
  · have hj := of_decide_eq_false g2
    ((conv=>whnf);repeat((first|refine Ct ‹_› ?_|refine Cf ‹_› ?_|refine Ct rfl ?_|refine Cf rfl ?_|refine Bi rfl ?_|refine Bz rfl ?_|refine Lr ?_);conv=>whnf))
    rw [show j.toNat = (L.getD t.toNat []).length by omega, List.take_length] at j3
    subst j3
    refine Rw_self ?_
    ((conv=>whnf);repeat((first|refine Ct ‹_› ?_|refine Cf ‹_› ?_|refine Ct rfl ?_|refine Cf rfl ?_|refine Bi rfl ?_|refine Bz rfl ?_|refine Lr ?_);conv=>whnf))
    refine Bnd_i ?_ ?_
    · show out.length + 1 < _
      omega
    ((conv=>whnf);repeat((first|refine Ct ‹_› ?_|refine Cf ‹_› ?_|refine Ct rfl ?_|refine Cf rfl ?_|refine Bi rfl ?_|refine Bz rfl ?_|refine Lr ?_);conv=>whnf))
    refine Rw_i (rwLL (out ++ [(L.getD t.toNat []).map fun p => ix b.m p.1 p.2])) (rwLL_app _ _ _ rfl) ?_
    ((conv=>whnf);repeat((first|refine Ct ‹_› ?_|refine Cf ‹_› ?_|refine Ct rfl ?_|refine Cf rfl ?_|refine Bi rfl ?_|refine Bz rfl ?_|refine Lr ?_);conv=>whnf))
    refine ⟨n - 1, t + 1, out ++ [(L.getD t.toNat []).map fun p => ix b.m p.1 p.2], ?_, by omega, by omega, by omega, ?_⟩
    · rw [wrapI (by omega)]; rfl
    · rw [show (t + 1 - 1).toNat = (t - 1 + 1).toNat by omega, range_succ' _ (t - 1) (by omega), ← t3, show (t - 1).toNat + 1 = t.toNat by omega]

theorem hnOff_ceil {n f x : Int} (hf : 0 ≤ f) (hn : 1 ≤ n) (h : x ∈ hnOff n f) : x = 0 ∨ (x = 1 ∧ 0 < f) := by
  unfold hnOff at h
  split at h
  · simp at h; omega
  · split at h <;> simp at h <;> omega

theorem fl_le {q n X : Int} (hq : 0 ≤ q ∧ q ≤ 1000) (hn : 1 ≤ n) (h : q ≤ X * n) : q.tdiv n ≤ X ∧ (0 < q.tmod n → q.tdiv n + 1 ≤ X) := by
  obtain ⟨e1, e1b, e1c, e1d⟩ := dm hq hn
  constructor
  · by_cases e : q.tdiv n ≤ X
    · exact e
    · have : n * (X + 1) ≤ n * q.tdiv n := Int.mul_le_mul_of_nonneg_left (by omega) (by omega)
      rw [Int.mul_add, Int.mul_comm n X] at this
      omega
  · intro hp
    by_cases e : q.tdiv n + 1 ≤ X
    · exact e
    · have : n * X ≤ n * q.tdiv n := Int.mul_le_mul_of_nonneg_left (by omega) (by omega)
      rw [Int.mul_comm n X] at this
      omega

theorem ptL_in {q r n X Y : Int} (hn : 1 ≤ n) (hq : 0 ≤ q ∧ q ≤ 1000) (hr : 0 ≤ r ∧ r ≤ 1000) (hX : q ≤ X * n) (hY : r ≤ Y * n) (hw : q.tmod n = 0 ∨ r.tmod n = 0 ∨ q.tmod n + r.tmod n = n) {p : Hx} (hp : p ∈ ptL q r n) : (0 ≤ p.1 ∧ p.1 ≤ X) ∧ 0 ≤ p.2 ∧ p.2 ≤ Y := by
  obtain ⟨e1, e1b, e1c, e1d⟩ := dm hq hn
  obtain ⟨e2, e2b, e2c, e2d⟩ := dm hr hn
  have a1 := fl_le hq hn hX
  have a2 := fl_le hr hn hY
  unfold ptL at hp
  obtain ⟨o, ho, rfl⟩ := List.mem_map.1 hp
  unfold spOff at ho
  show (0 ≤ q.tdiv n + o.1 ∧ q.tdiv n + o.1 ≤ X) ∧ 0 ≤ r.tdiv n + o.2 ∧ r.tdiv n + o.2 ≤ Y
  split at ho
  · obtain ⟨y, hy, rfl⟩ := List.mem_map.1 ho
    have := hnOff_ceil e2c hn hy
    show (0 ≤ q.tdiv n + 0 ∧ q.tdiv n + 0 ≤ X) ∧ 0 ≤ r.tdiv n + y ∧ r.tdiv n + y ≤ Y
    omega
  · obtain ⟨x, hx, rfl⟩ := List.mem_map.1 ho
    have := hnOff_ceil e1c hn hx
    split
    · show (0 ≤ q.tdiv n + x ∧ q.tdiv n + x ≤ X) ∧ 0 ≤ r.tdiv n + 0 ∧ r.tdiv n + 0 ≤ Y
      omega
    · show (0 ≤ q.tdiv n + x ∧ q.tdiv n + x ≤ X) ∧ 0 ≤ r.tdiv n + (1 - x) ∧ r.tdiv n + (1 - x) ≤ Y
      omega

theorem lnQ_X {a b i n X : Int} (ha : a ≤ X) (hb : b ≤ X) (hi : 0 ≤ i ∧ i ≤ n) : lnQ a b i n ≤ X * n := by
  have e : lnQ a b i n = a * (n - i) + b * i := by
    unfold lnQ
    rw [Int.mul_sub, Int.sub_mul]; omega
  rw [e]
  have h3 := Int.mul_le_mul_of_nonneg_right ha (show 0 ≤ n - i by omega)
  have h4 := Int.mul_le_mul_of_nonneg_right hb hi.1
  rw [Int.mul_sub X] at h3
  omega

theorem hx_w {m : Map} (h : WH m) {i : Int} (h0 : 0 ≤ i) (h1 : i < m.w * m.h) : i.tmod m.w ≤ m.w - 1 ∧ i.tdiv m.w ≤ m.h - 1 := by
  have hw := h.w1; have hm := h.mul
  have h3 := tdiv_b (i := i) (w := m.w) h0 (by omega) hw
  refine ⟨by omega, ?_⟩
  have h4 := Int.mul_tdiv_add_tmod i m.w
  by_cases e : i.tdiv m.w ≤ m.h - 1
  · exact e
  · have h5 : m.w * m.h ≤ m.w * i.tdiv m.w := Int.mul_le_mul_of_nonneg_left (by omega) (by omega)
    omega

theorem ceL_in {m : Map} (h : WH m) {i k : Int} (hi : 0 ≤ i ∧ i < m.w * m.h) (hk : 0 ≤ k ∧ k < m.w * m.h) : ∀ l ∈ ceL m i k, ∀ x ∈ l, 0 ≤ x ∧ x < m.w * m.h := by
  intro l hl x hx
  obtain ⟨t, ht, rfl⟩ := List.mem_map.1 hl
  have ht := List.mem_range.1 ht
  obtain ⟨p, hp, rfl⟩ := List.mem_map.1 hx
  have bi := hx_b h hi.1 hi.2
  have bk := hx_b h hk.1 hk.2
  have wi := hx_w h hi.1 hi.2
  have wk := hx_w h hk.1 hk.2
  have h18 := dsH_b bi bk
  have hln := (lnL_len bi bk).1
  have ht : t < (lnL (i.tmod m.w) (i.tdiv m.w) (k.tmod m.w) (k.tdiv m.w)).length - 2 := ht
  have h1 : 1 ≤ dsH (i.tmod m.w) (i.tdiv m.w) (k.tmod m.w) (k.tdiv m.w) := by omega
  have hp2 : p ∈ lcL (i.tmod m.w) (i.tdiv m.w) (k.tmod m.w) (k.tdiv m.w) ((t + 1 : Nat) : Int) := by
    have : (lnM m i k).getD (t + 1) [] = lcL (i.tmod m.w) (i.tdiv m.w) (k.tmod m.w) (k.tdiv m.w) ((t + 1 : Nat) : Int) := by
      unfold lnM lnL
      rw [if_neg (by omega), List.getD_eq_getElem?_getD, List.getElem?_map, List.getElem?_range (by omega)]; rfl
    rwa [this] at hp
  have hi2 : (0 : Int) ≤ ((t + 1 : Nat) : Int) ∧ ((t + 1 : Nat) : Int) ≤ dsH (i.tmod m.w) (i.tdiv m.w) (k.tmod m.w) (k.tdiv m.w) := by omega
  have q1 := lnQ_b bi.q bk.q hi2 (by omega)
  have r1 := lnQ_b bi.r bk.r hi2 (by omega)
  have r := ptL_in h1 (by omega) (by omega) (lnQ_X wi.1 wk.1 hi2) (lnQ_X wi.2 wk.2 hi2) (ln_whole bi bk hi2 h1) hp2
  have hw := ix_wrap h (q := p.1) (r := p.2) r.1 r.2
  rw [ix, if_pos ⟨r.1, r.2⟩]
  omega

/-- how many of the first n are so -/
def cnN (p : Int → Bool) (l : List Int) : Nat → Int
  | 0 => 0
  | n + 1 => if p (l.getD n 0) = true then cnN p l n + 1 else cnN p l n

theorem cnN_b (p : Int → Bool) (l : List Int) (n : Nat) : 0 ≤ cnN p l n ∧ cnN p l n ≤ n := by
  induction n with
  | zero => simp [cnN]
  | succ n ih => unfold cnN; split <;> omega

theorem cnN_succ (p : Int → Bool) (l : List Int) {t : Int} (h0 : 0 ≤ t) : cnN p l (t + 1).toNat = if p (l.getD t.toNat 0) = true then cnN p l t.toNat + 1 else cnN p l t.toNat := by
  rw [show (t + 1).toNat = t.toNat + 1 by omega, cnN]

abbrev cnA (b : Brd) (i k : Int) (l : List Int) : Int := cnN (blk b i k) l l.length

theorem F_vCount (b : Brd) (h : GB b) (i k : Int) (hi : 0 ≤ i ∧ i < b.m.ter.length) (hk : 0 ≤ k ∧ k < b.m.ter.length) (l : List Int) (hl : l.length ≤ 1000) (hin : ∀ x ∈ l, 0 ≤ x ∧ x < b.m.ter.length) :
    Fun E0 106 [.agg b.cs, vI i, vI k, .one (roI l)] [] (.v (vI (cnA b i k l))) [] [] := by
  refine Fun_of_xc k106 rfl rfl (fun k q h => by cases h) ?_
  ((conv=>whnf);repeat((first|refine Ct ‹_› ?_|refine Cf ‹_› ?_|refine Ct rfl ?_|refine Cf rfl ?_|refine Bi rfl ?_|refine Bz rfl ?_|refine Lr ?_);conv=>whnf))
  refine WLoop_v2 ⟨[1, 2, 4, 9, 12, 13, 14], [4], []⟩ (fun (t y : Int) => hdS 27 [(1, .v (vI i)), (2, .v (vI k)), (4, .v (.one (.box 4 0))), (9, .v (vI y)), (12, .v (.one (roI l))), (13, .v (vI l.length)), (14, .v (vI t))] [(4, b.cs)] [])
    (fun n t y => 0 ≤ t ∧ t + n = l.length ∧ y = cnN (blk b i k) l t.toNat) l.length 0 0 rfl ⟨by omega, by omega, rfl⟩ ?_
  rintro n t y ⟨h1, h2, h3⟩
  have hb := cnN_b (blk b i k) l t.toNat
  have hs := cnN_succ (blk b i k) l h1
  rw [← h3] at hb hs
  ((conv=>whnf);repeat((first|refine Ct ‹_› ?_|refine Cf ‹_› ?_|refine Ct rfl ?_|refine Cf rfl ?_|refine Bi rfl ?_|refine Bz rfl ?_|refine Lr ?_);conv=>whnf))
  refine Cnd_i (fun g => ?_) (fun g => ?_)
  · have ht := of_decide_eq_true g
    have hx := hin _ (getD_mem h1 ht)
    ((conv=>whnf);repeat((first|refine Ct ‹_› ?_|refine Cf ‹_› ?_|refine Ct rfl ?_|refine Cf rfl ?_|refine Bi rfl ?_|refine Bz rfl ?_|refine Lr ?_);conv=>whnf))
    refine Bnd_i (⟨h1, ht⟩) ?_; ((conv=>whnf);repeat((first|refine Ct ‹_› ?_|refine Cf ‹_› ?_|refine Ct rfl ?_|refine Cf rfl ?_|refine Bi rfl ?_|refine Bz rfl ?_|refine Lr ?_);conv=>whnf))
    (refine CallQ_some (F_vBlocks b h i k (l.getD t.toNat 0) hi hk hx) ?_ ?_ ?_; rfl; rfl); ((conv=>whnf);repeat((first|refine Ct ‹_› ?_|refine Cf ‹_› ?_|refine Ct rfl ?_|refine Cf rfl ?_|refine Bi rfl ?_|refine Bz rfl ?_|refine Lr ?_);conv=>whnf))
    refine Cnd_i (fun g2 => ?_) (fun g2 => ?_)
    · rw [if_pos g2] at hs
      ((conv=>whnf);repeat((first|refine Ct ‹_› ?_|refine Cf ‹_› ?_|refine Ct rfl ?_|refine Cf rfl ?_|refine Bi rfl ?_|refine Bz rfl ?_|refine Lr ?_);conv=>whnf))
      refine ⟨n - 1, t + 1, y + 1, ?_, by omega, by omega, by omega, hs.symm⟩
      rw [wrapI (n := t + 1) (by omega), wrapI (by omega)]; rfl
    · rw [if_neg (by rw [g2]; simp)] at hs
      ((conv=>whnf);repeat((first|refine Ct ‹_› ?_|refine Cf ‹_› ?_|refine Ct rfl ?_|refine Cf rfl ?_|refine Bi rfl ?_|refine Bz rfl ?_|refine Lr ?_);conv=>whnf))
      refine ⟨n - 1, t + 1, y, ?_, by omega, by omega, by omega, hs.symm⟩
      rw [wrapI (by omega)]; rfl
  · have ht := of_decide_eq_false g
    ((conv=>whnf);repeat((first|refine Ct ‹_› ?_|refine Cf ‹_› ?_|refine Ct rfl ?_|refine Cf rfl ?_|refine Bi rfl ?_|refine Bz rfl ?_|refine Lr ?_);conv=>whnf))
    rw [h3, show t.toNat = l.length by omega]
    exact ⟨rfl, rfl, rfl⟩

def fullC (b : Brd) (i k : Int) (c : List Int) : Bool := cnA b i k c == (c.length : Int)

def someC (b : Brd) (i k : Int) (c : List Int) : Bool := decide (cnA b i k c > 0)

/-- the first element that blocks; the code of the sight -/
def vFc (b : Brd) (i k : Int) : Int := fi (fullC b i k) (ceL b.m i k)

def vCd (b : Brd) (i k : Int) : Int := if vFc b i k ≥ 0 then 2 else if (ceL b.m i k).any (someC b i k) = true then 1 else 0

theorem vFc_b {b : Brd} (h : GB b) {i k : Int} (hi : 0 ≤ i ∧ i < b.m.ter.length) (hk : 0 ≤ k ∧ k < b.m.ter.length) : (∀ l ∈ ceL b.m i k, l.length ≤ 2 ∧ ∀ x ∈ l, 0 ≤ x ∧ x < b.m.ter.length) ∧ (ceL b.m i k).length ≤ 17 := by
  have hn := h.n
  have h1 := ceL_len h.wh (i := i) (k := k) (by omega) (by omega)
  have h2 := ceL_in h.wh (i := i) (k := k) (by omega) (by omega)
  exact ⟨fun l hl => ⟨h1.2 l hl, fun x hx => by have := h2 l hl x hx; omega⟩, h1.1⟩

theorem F_vFirst (b : Brd) (h : GB b) (i k : Int) (hi : 0 ≤ i ∧ i < b.m.ter.length) (hk : 0 ≤ k ∧ k < b.m.ter.length) :
    Fun E0 104 [.agg b.cs, vI i, vI k] [] (.v (vI (vFc b i k))) [] [] := by
  have hc := vFc_b h hi hk
  unfold vFc
  refine Fun_of_xc k104 rfl rfl (fun k q h => by cases h) ?_
  ((conv=>whnf);repeat((first|refine Ct ‹_› ?_|refine Cf ‹_› ?_|refine Ct rfl ?_|refine Cf rfl ?_|refine Bi rfl ?_|refine Bz rfl ?_|refine Lr ?_);conv=>whnf))
  (refine CallQ_some (F_vCells b h i k hi hk) ?_ ?_ ?_; rfl; rfl); ((conv=>whnf);repeat((first|refine Ct ‹_› ?_|refine Cf ‹_› ?_|refine Ct rfl ?_|refine Cf rfl ?_|refine Bi rfl ?_|refine Bz rfl ?_|refine Lr ?_);conv=>whnf))
  generalize ceL b.m i k = C at hc ⊢
  obtain ⟨c1, c2⟩ := hc
  refine WLoop_v ⟨[1, 2, 3, 12, 13, 14], [3], []⟩ (fun (t : Int) => hdS 29 [(1, .v (vI i)), (2, .v (vI k)), (3, .v (.one (.box 3 0))), (12, .v (.one (.own (vkey 12) C.length))), (13, .v (vI C.length)), (14, .v (vI t))] [(3, b.cs)] [(vkey 12, rwLL C)])
    (fun n t => 0 ≤ t ∧ t + n = C.length ∧ ∀ j : Nat, (j : Int) < t → fullC b i k (C.getD j []) = false) C.length 0 rfl ⟨by omega, by omega, fun j hj => by omega⟩ ?_
  rintro n t ⟨h1, h2, h3⟩
  ((conv=>whnf);repeat((first|refine Ct ‹_› ?_|refine Cf ‹_› ?_|refine Ct rfl ?_|refine Cf rfl ?_|refine Bi rfl ?_|refine Bz rfl ?_|refine Lr ?_);conv=>whnf))
  refine Cnd_i (fun g => ?_) (fun g => ?_)
  · have ht := of_decide_eq_true g
    have hx := c1 _ (getD_memT (d := []) h1 ht)
    ((conv=>whnf);repeat((first|refine Ct ‹_› ?_|refine Cf ‹_› ?_|refine Ct rfl ?_|refine Cf rfl ?_|refine Bi rfl ?_|refine Bz rfl ?_|refine Lr ?_);conv=>whnf))
    refine Bnd_i (⟨h1, ht⟩) ?_; ((conv=>whnf);repeat((first|refine Ct ‹_› ?_|refine Cf ‹_› ?_|refine Ct rfl ?_|refine Cf rfl ?_|refine Bi rfl ?_|refine Bz rfl ?_|refine Lr ?_);conv=>whnf))
    (refine CallQ_some (F_vCount b h i k hi hk (C.getD t.toNat []) (by omega) hx.2) ?_ ?_ ?_; rfl; rfl); ((conv=>whnf);repeat((first|refine Ct ‹_› ?_|refine Cf ‹_› ?_|refine Ct rfl ?_|refine Cf rfl ?_|refine Bi rfl ?_|refine Bz rfl ?_|refine Lr ?_);conv=>whnf))
    refine Cnd_i (fun g2 => ?_) (fun g2 => ?_)
    · ((conv=>whnf);repeat((first|refine Ct ‹_› ?_|refine Cf ‹_› ?_|refine Ct rfl ?_|refine Cf rfl ?_|refine Bi rfl ?_|refine Bz rfl ?_|refine Lr ?_);conv=>whnf))
      rw [fi_at (d := []) h1 ht h3 g2]
      exact ⟨rfl, rfl, rfl⟩
    · ((conv=>whnf);repeat((first|refine Ct ‹_› ?_|refine Cf ‹_› ?_|refine Ct rfl ?_|refine Cf rfl ?_|refine Bi rfl ?_|refine Bz rfl ?_|refine Lr ?_);conv=>whnf))
      refine ⟨n - 1, t + 1, ?_, by omega, by omega, by omega, fun j hj => ?_⟩
      · rw [wrapI (by omega)]; rfl
      · by_cases e : (j : Int) = t
        · rw [show j = t.toNat by omega]; exact g2
        · exact h3 j (by omega)
  · have ht := of_decide_eq_false g
    ((conv=>whnf);repeat((first|refine Ct ‹_› ?_|refine Cf ‹_› ?_|refine Ct rfl ?_|refine Cf rfl ?_|refine Bi rfl ?_|refine Bz rfl ?_|refine Lr ?_);conv=>whnf))
    rw [fi_no (d := []) (fun j hj => h3 j (by omega))]
    exact ⟨rfl, rfl, rfl⟩

theorem F_vCode (b : Brd) (h : GB b) (i k : Int) (hi : 0 ≤ i ∧ i < b.m.ter.length) (hk : 0 ≤ k ∧ k < b.m.ter.length) :
    Fun E0 84 [.agg b.cs, vI i, vI k] [] (.v (vI (vCd b i k))) [] [] := by
  have hc := vFc_b h hi hk
  refine Fun_of_xc k84 rfl rfl (fun k q h => by cases h) ?_
  ((conv=>whnf);repeat((first|refine Ct ‹_› ?_|refine Cf ‹_› ?_|refine Ct rfl ?_|refine Cf rfl ?_|refine Bi rfl ?_|refine Bz rfl ?_|refine Lr ?_);conv=>whnf))
  (refine CallQ_some (F_vFirst b h i k hi hk) ?_ ?_ ?_; rfl; rfl); ((conv=>whnf);repeat((first|refine Ct ‹_› ?_|refine Cf ‹_› ?_|refine Ct rfl ?_|refine Cf rfl ?_|refine Bi rfl ?_|refine Bz rfl ?_|refine Lr ?_);conv=>whnf))
  refine Cnd_i (fun g => ?_) (fun g => ?_)
  · have g := of_decide_eq_true g
    ((conv=>whnf);repeat((first|refine Ct ‹_› ?_|refine Cf ‹_› ?_|refine Ct rfl ?_|refine Cf rfl ?_|refine Bi rfl ?_|refine Bz rfl ?_|refine Lr ?_);conv=>whnf))
    rw [vCd, if_pos g]
    exact ⟨rfl, rfl, rfl⟩
  have g := of_decide_eq_false g
  unfold vCd
  rw [if_neg g]
  ((conv=>whnf);repeat((first|refine Ct ‹_› ?_|refine Cf ‹_› ?_|refine Ct rfl ?_|refine Cf rfl ?_|refine Bi rfl ?_|refine Bz rfl ?_|refine Lr ?_);conv=>whnf))
  (refine CallQ_some (F_vCells b h i k hi hk) ?_ ?_ ?_; rfl; rfl); ((conv=>whnf);repeat((first|refine Ct ‹_› ?_|refine Cf ‹_› ?_|refine Ct rfl ?_|refine Cf rfl ?_|refine Bi rfl ?_|refine Bz rfl ?_|refine Lr ?_);conv=>whnf))
  generalize ceL b.m i k = C at hc ⊢
  obtain ⟨c1, c2⟩ := hc
  refine WLoop_v ⟨[1, 2, 3, 17, 18, 19], [3], []⟩ (fun (t : Int) => hdS 30 [(1, .v (vI i)), (2, .v (vI k)), (3, .v (.one (.box 3 0))), (17, .v (.one (.own (vkey 17) C.length))), (18, .v (vI C.length)), (19, .v (vI t))] [(3, b.cs)] [(vkey 17, rwLL C)])
    (fun n t => 0 ≤ t ∧ t + n = C.length ∧ (C.drop t.toNat).any (someC b i k) = C.any (someC b i k)) C.length 0 rfl ⟨by omega, by omega, rfl⟩ ?_
  rintro n t ⟨h1, h2, h3⟩
  ((conv=>whnf);repeat((first|refine Ct ‹_› ?_|refine Cf ‹_› ?_|refine Ct rfl ?_|refine Cf rfl ?_|refine Bi rfl ?_|refine Bz rfl ?_|refine Lr ?_);conv=>whnf))
  refine Cnd_i (fun g => ?_) (fun g => ?_)
  · have ht := of_decide_eq_true g
    have hx := c1 _ (getD_memT (d := []) h1 ht)
    rw [drop_cons (d := []) h1 ht, List.any_cons] at h3
    ((conv=>whnf);repeat((first|refine Ct ‹_› ?_|refine Cf ‹_› ?_|refine Ct rfl ?_|refine Cf rfl ?_|refine Bi rfl ?_|refine Bz rfl ?_|refine Lr ?_);conv=>whnf))
    refine Bnd_i (⟨h1, ht⟩) ?_; ((conv=>whnf);repeat((first|refine Ct ‹_› ?_|refine Cf ‹_› ?_|refine Ct rfl ?_|refine Cf rfl ?_|refine Bi rfl ?_|refine Bz rfl ?_|refine Lr ?_);conv=>whnf))
    (refine CallQ_some (F_vCount b h i k hi hk (C.getD t.toNat []) (by omega) hx.2) ?_ ?_ ?_; rfl; rfl); ((conv=>whnf);repeat((first|refine Ct ‹_› ?_|refine Cf ‹_› ?_|refine Ct rfl ?_|refine Cf rfl ?_|refine Bi rfl ?_|refine Bz rfl ?_|refine Lr ?_);conv=>whnf))
    refine Cnd_i (fun g2 => ?_) (fun g2 => ?_)
    · have e : someC b i k (C.getD t.toNat []) = true := g2
      ((conv=>whnf);repeat((first|refine Ct ‹_› ?_|refine Cf ‹_› ?_|refine Ct rfl ?_|refine Cf rfl ?_|refine Bi rfl ?_|refine Bz rfl ?_|refine Lr ?_);conv=>whnf))
      rw [← h3, e, if_pos (Bool.true_or _)]
      exact ⟨rfl, rfl, rfl⟩
    · have e : someC b i k (C.getD t.toNat []) = false := g2
      rw [e, Bool.false_or] at h3
      ((conv=>whnf);repeat((first|refine Ct ‹_› ?_|refine Cf ‹_› ?_|refine Ct rfl ?_|refine Cf rfl ?_|refine Bi rfl ?_|refine Bz rfl ?_|refine Lr ?_);conv=>whnf))
      refine ⟨n - 1, t + 1, ?_, by omega, by omega, by omega, h3⟩
      rw [wrapI (by omega)]; rfl
  · have ht := of_decide_eq_false g
    rw [show t.toNat = C.length by omega, List.drop_length] at h3
    ((conv=>whnf);repeat((first|refine Ct ‹_› ?_|refine Cf ‹_› ?_|refine Ct rfl ?_|refine Cf rfl ?_|refine Bi rfl ?_|refine Bz rfl ?_|refine Lr ?_);conv=>whnf))
    rw [← h3, if_neg (by simp)]
    exact ⟨rfl, rfl, rfl⟩

theorem F_sightOf (b : Brd) (h : GB b) (i k : Int) (hi : 0 ≤ i ∧ i < b.m.ter.length) (hk : 0 ≤ k ∧ k < b.m.ter.length) :
    Fun E0 88 [.agg b.cs, vI i, vI k] [] (.tup [vI (vCd b i k), vI (vFc b i k)]) [] [] := by
  have hc := vFc_b h hi hk
  unfold vCd vFc
  refine Fun_of_xc k88 rfl rfl (fun k q h => by cases h) ?_
  ((conv=>whnf);repeat((first|refine Ct ‹_› ?_|refine Cf ‹_› ?_|refine Ct rfl ?_|refine Cf rfl ?_|refine Bi rfl ?_|refine Bz rfl ?_|refine Lr ?_);conv=>whnf))
  (refine CallQ_some (F_sightCells b h i k hi hk) ?_ ?_ ?_; rfl; rfl); ((conv=>whnf);repeat((first|refine Ct ‹_› ?_|refine Cf ‹_› ?_|refine Ct rfl ?_|refine Cf rfl ?_|refine Bi rfl ?_|refine Bz rfl ?_|refine Lr ?_);conv=>whnf))
  generalize ceL b.m i k = C at hc ⊢
  obtain ⟨c1, c2⟩ := hc
  refine WLoop_v2 ⟨[1, 2, 3, 8, 17, 18, 19], [3], []⟩ (fun (c t : Int) => hdS 47 [(1, .v (vI i)), (2, .v (vI k)), (3, .v (.one (.box 3 0))), (8, .v (vI c)), (17, .v (.one (.own (vkey 17) C.length))), (18, .v (vI C.length)), (19, .v (vI t))] [(3, b.cs)] [(vkey 17, rwLL C)])
    (fun n c t => 0 ≤ t ∧ t + n = C.length ∧ (∀ j : Nat, (j : Int) < t → fullC b i k (C.getD j []) = false) ∧ (if (C.drop t.toNat).any (someC b i k) = true then 1 else c) = (if C.any (someC b i k) = true then 1 else (0 : Int))) C.length 0 0 rfl ⟨by omega, by omega, fun j hj => by omega, rfl⟩ ?_
  rintro n c t ⟨h1, h2, h3, h4⟩
  ((conv=>whnf);repeat((first|refine Ct ‹_› ?_|refine Cf ‹_› ?_|refine Ct rfl ?_|refine Cf rfl ?_|refine Bi rfl ?_|refine Bz rfl ?_|refine Lr ?_);conv=>whnf))
  refine Cnd_i (fun g => ?_) (fun g => ?_)
  rotate_left
  · have ht := of_decide_eq_false g
    rw [show t.toNat = C.length by omega, List.drop_length, List.any_nil, if_neg (by simp)] at h4
    ((conv=>whnf);repeat((first|refine Ct ‹_› ?_|refine Cf ‹_› ?_|refine Ct rfl ?_|refine Cf rfl ?_|refine Bi rfl ?_|refine Bz rfl ?_|refine Lr ?_);conv=>whnf))
    rw [fi_no (d := []) (fun j hj => h3 j (by omega)), if_neg (by omega), h4]
    exact ⟨rfl, rfl, rfl⟩
  have ht := of_decide_eq_true g
  have hx := c1 _ (getD_memT (d := []) h1 ht)
  rw [drop_cons (d := []) h1 ht, List.any_cons] at h4
  ((conv=>whnf);repeat((first|refine Ct ‹_› ?_|refine Cf ‹_› ?_|refine Ct rfl ?_|refine Cf rfl ?_|refine Bi rfl ?_|refine Bz rfl ?_|refine Lr ?_);conv=>whnf))
  refine Bnd_i (⟨h1, ht⟩) ?_; ((conv=>whnf);repeat((first|refine Ct ‹_› ?_|refine Cf ‹_› ?_|refine Ct rfl ?_|refine Cf rfl ?_|refine Bi rfl ?_|refine Bz rfl ?_|refine Lr ?_);conv=>whnf))
  refine WLoop_v2 ⟨[1, 2, 3, 8, 9, 11, 17, 18, 19, 25, 26], [3], [(10, 17), (24, 17)]⟩ (fun (y j : Int) => hdS 47 [(1, .v (vI i)), (2, .v (vI k)), (3, .v (.one (.box 3 0))), (8, .v (vI c)), (9, .v (vI t)), (10, .v (.one (.own1 (vkey 17) t.toNat 0 (C.getD t.toNat []).length))), (11, .v (vI y)), (17, .v (.one (.own (vkey 17) C.length))), (18, .v (vI C.length)), (19, .v (vI t)), (24, .v (.one (.own1 (vkey 17) t.toNat 0 (C.getD t.toNat []).length))), (25, .v (vI (C.getD t.toNat []).length)), (26, .v (vI j))] [(3, b.cs)] [(vkey 17, rwLL C)])
    (fun m y j => 0 ≤ j ∧ j + m = (C.getD t.toNat []).length ∧ y = cnN (blk b i k) (C.getD t.toNat []) j.toNat) (C.getD t.toNat []).length 0 0 rfl ⟨by omega, by omega, rfl⟩ ?_
  rintro m y j ⟨j1, j2, j3⟩
  have hb := cnN_b (blk b i k) (C.getD t.toNat []) j.toNat
  have hs := cnN_succ (blk b i k) (C.getD t.toNat []) j1
  rw [← j3] at hb hs
  ((conv=>whnf);repeat((first|refine Ct ‹_› ?_|refine Cf ‹_› ?_|refine Ct rfl ?_|refine Cf rfl ?_|refine Bi rfl ?_|refine Bz rfl ?_|refine Lr ?_);conv=>whnf))
  refine Cnd_i (fun g => ?_) (fun g => ?_)
  · have hj := of_decide_eq_true g
    ((conv=>whnf);repeat((first|refine Ct ‹_› ?_|refine Cf ‹_› ?_|refine Ct rfl ?_|refine Cf rfl ?_|refine Bi rfl ?_|refine Bz rfl ?_|refine Lr ?_);conv=>whnf))
    refine Bnd_i (⟨j1, hj⟩) ?_; ((conv=>whnf);repeat((first|refine Ct ‹_› ?_|refine Cf ‹_› ?_|refine Ct rfl ?_|refine Cf rfl ?_|refine Bi rfl ?_|refine Bz rfl ?_|refine Lr ?_);conv=>whnf))
    (refine CallQ_some (F_blocksBetween b h i k ((C.getD t.toNat []).getD j.toNat 0) hi hk (hx.2 _ (getD_mem j1 hj))) ?_ ?_ ?_; rfl; rfl); ((conv=>whnf);repeat((first|refine Ct ‹_› ?_|refine Cf ‹_› ?_|refine Ct rfl ?_|refine Cf rfl ?_|refine Bi rfl ?_|refine Bz rfl ?_|refine Lr ?_);conv=>whnf))
    refine Cnd_i (fun g2 => ?_) (fun g2 => ?_)
    · rw [if_pos g2] at hs
      ((conv=>whnf);repeat((first|refine Ct ‹_› ?_|refine Cf ‹_› ?_|refine Ct rfl ?_|refine Cf rfl ?_|refine Bi rfl ?_|refine Bz rfl ?_|refine Lr ?_);conv=>whnf))
      refine ⟨m - 1, y + 1, j + 1, ?_, by omega, by omega, by omega, hs.symm⟩
      rw [wrapI (n := j + 1) (by omega), wrapI (by omega)]; rfl
    · rw [if_neg (by rw [g2]; simp)] at hs
      ((conv=>whnf);repeat((first|refine Ct ‹_› ?_|refine Cf ‹_› ?_|refine Ct rfl ?_|refine Cf rfl ?_|refine Bi rfl ?_|refine Bz rfl ?_|refine Lr ?_);conv=>whnf))
      refine ⟨m - 1, y, j + 1, ?_, by omega, by omega, by omega, hs.symm⟩
      rw [wrapI (by omega)]; rfl
  · have hj := of_decide_eq_false g
    rw [show j.toNat = (C.getD t.toNat []).length by omega] at j3
    ((conv=>whnf);repeat((first|refine Ct ‹_› ?_|refine Cf ‹_› ?_|refine Ct rfl ?_|refine Cf rfl ?_|refine Bi rfl ?_|refine Bz rfl ?_|refine Lr ?_);conv=>whnf))
    subst j3
    refine Cnd_i (fun g2 => ?_) (fun g2 => ?_)
    · ((conv=>whnf);repeat((first|refine Ct ‹_› ?_|refine Cf ‹_› ?_|refine Ct rfl ?_|refine Cf rfl ?_|refine Bi rfl ?_|refine Bz rfl ?_|refine Lr ?_);conv=>whnf))
      rw [fi_at (d := []) h1 ht h3 g2, if_pos h1]
      exact ⟨rfl, rfl, rfl⟩
    have h3' : ∀ j : Nat, (j : Int) < t + 1 → fullC b i k (C.getD j []) = false := by
      intro j hj
      by_cases e : (j : Int) = t
      · rw [show j = t.toNat by omega]; exact g2
      · exact h3 j (by omega)
    ((conv=>whnf);repeat((first|refine Ct ‹_› ?_|refine Cf ‹_› ?_|refine Ct rfl ?_|refine Cf rfl ?_|refine Bi rfl ?_|refine Bz rfl ?_|refine Lr ?_);conv=>whnf))
    refine Cnd_i (fun g5 => ?_) (fun g5 => ?_)
    · have e : someC b i k (C.getD t.toNat []) = true := g5
      rw [e, Bool.true_or, if_pos rfl] at h4
      ((conv=>whnf);repeat((first|refine Ct ‹_› ?_|refine Cf ‹_› ?_|refine Ct rfl ?_|refine Cf rfl ?_|refine Bi rfl ?_|refine Bz rfl ?_|refine Lr ?_);conv=>whnf))
      refine ⟨n - 1, 1, t + 1, ?_, by omega, by omega, by omega, h3', ?_⟩
      · rw [wrapI (by omega)]; rfl
      · rw [← h4]; split <;> rfl
    · have e : someC b i k (C.getD t.toNat []) = false := g5
      rw [e, Bool.false_or] at h4
      ((conv=>whnf);repeat((first|refine Ct ‹_› ?_|refine Cf ‹_› ?_|refine Ct rfl ?_|refine Cf rfl ?_|refine Bi rfl ?_|refine Bz rfl ?_|refine Lr ?_);conv=>whnf))
      refine ⟨n - 1, c, t + 1, ?_, by omega, by omega, by omega, h3', h4⟩
      rw [wrapI (by omega)]; rfl

/-! ### a place to meet -/
def betM (L L' : List Int) (x y : Int) : Prop := max (L.getD x.toNat 0) (L'.getD x.toNat 0) < max (L.getD y.toNat 0) (L'.getD y.toNat 0) ∨ (max (L.getD x.toNat 0) (L'.getD x.toNat 0) = max (L.getD y.toNat 0) (L'.getD y.toNat 0) ∧ L.getD x.toNat 0 + L'.getD x.toNat 0 < L.getD y.toNat 0 + L'.getD y.toNat 0)

instance (L L' : List Int) (x y : Int) : Decidable (betM L L' x y) := by unfold betM; infer_instance

theorem selN_mem {p : Int → Bool} {n : Nat} {x : Int} (h : x ∈ selN p n) : (0 ≤ x ∧ x < n) ∧ p x = true := by
  induction n with
  | zero => simp [selN] at h
  | succ n ih =>
    unfold selN at h
    split at h
    · rename_i g
      rcases List.mem_append.1 h with h | h
      · have := ih h; exact ⟨by omega, this.2⟩
      · simp at h; subst h; exact ⟨by omega, g⟩
    · have := ih h; exact ⟨by omega, this.2⟩

theorem selN_filter (p q : Int → Bool) (n : Nat) : (selN p n).filter q = selN (fun x => p x && q x) n := by
  induction n with
  | zero => rfl
  | succ n ih =>
    unfold selN
    by_cases h1 : p (n : Int) = true
    · rw [if_pos h1, List.filter_append, ih]
      by_cases h2 : q (n : Int) = true
      · rw [if_pos (by rw [h1, h2]; rfl)]; simp [h2]
      · rw [if_neg (by rw [h1]; simpa using h2)]; simp [h2]
    · rw [if_neg h1, if_neg (by simp [h1]), ih]

/-- a list that is sifted element by element -/
theorem filter_take (q : Int → Bool) (l : List Int) {t : Int} (h0 : 0 ≤ t) (h1 : t < l.length) : (l.take (t + 1).toNat).filter q = if q (l.getD t.toNat 0) = true then (l.take t.toNat).filter q ++ [l.getD t.toNat 0] else (l.take t.toNat).filter q := by
  rw [take_appI h0 h1, List.filter_append]
  split
  · rename_i h; rw [List.filter_cons, if_pos h]; rfl
  · rename_i h; rw [List.filter_cons, if_neg h]; simp

def dsM (m : Map) (i k : Int) : Int := dsH (i.tmod m.w) (i.tdiv m.w) (k.tmod m.w) (k.tdiv m.w)

def nearP (m : Map) (i far : Int) : Int → Bool := fun k => decide (dsM m i k ≤ far)

theorem F_mNear (b : Brd) (h : GB b) (i far : Int) (hi : 0 ≤ i ∧ i < b.m.ter.length) :
    Fun E0 83 [.agg b.m.cs, vI i, vI far] [] (.v (.one (.own 0 (selN (nearP b.m i far) b.m.ter.length).length))) [(0, rwI (selN (nearP b.m i far) b.m.ter.length))] [] := by
  have hm := h.wh.mul
  have hn := h.n
  refine Fun_of_xc k83 rfl rfl (nrC (rwI_no _) nrN) ?_
  ((conv=>whnf);repeat((first|refine Ct ‹_› ?_|refine Cf ‹_› ?_|refine Ct rfl ?_|refine Cf rfl ?_|refine Bi rfl ?_|refine Bz rfl ?_|refine Lr ?_);conv=>whnf))
  refine Rw_i (rwI []) (rwI_nil _) ?_
  ((conv=>whnf);repeat((first|refine Ct ‹_› ?_|refine Cf ‹_› ?_|refine Ct rfl ?_|refine Cf rfl ?_|refine Bi rfl ?_|refine Bz rfl ?_|refine Lr ?_);conv=>whnf))
  refine Rw_i (rwI []) (rwI_nil _) ?_
  ((conv=>whnf);repeat((first|refine Ct ‹_› ?_|refine Cf ‹_› ?_|refine Ct rfl ?_|refine Cf rfl ?_|refine Bi rfl ?_|refine Bz rfl ?_|refine Lr ?_);conv=>whnf))
  refine WLoop_v2 ⟨[1, 2, 3, 7, 8], [3], []⟩ (fun (t : Int) (out : List Int) => hdS 29 [(1, .v (vI i)), (2, .v (vI far)), (3, .v (.one (.box 3 0))), (7, .v (.one (.own (vkey 7) out.length))), (8, .v (vI t))] [(3, b.m.cs)] [(vkey 7, rwI out)])
    (fun n t out => 0 ≤ t ∧ t + n = b.m.ter.length ∧ out = selN (nearP b.m i far) t.toNat) b.m.ter.length 0 [] rfl ⟨by omega, by omega, rfl⟩ ?_
  rintro n t out ⟨h1, h2, h3⟩
  have hle := selN_le (nearP b.m i far) t.toNat
  rw [← h3] at hle
  have hnx : selN (nearP b.m i far) (t + 1).toNat = if nearP b.m i far t = true then out ++ [t] else out := by
    rw [show (t + 1).toNat = t.toNat + 1 by omega, selN, ← h3, show ((t.toNat : Nat) : Int) = t by omega]
  ((conv=>whnf);repeat((first|refine Ct ‹_› ?_|refine Cf ‹_› ?_|refine Ct rfl ?_|refine Cf rfl ?_|refine Bi rfl ?_|refine Bz rfl ?_|refine Lr ?_);conv=>whnf))
  (refine CallQ_some (F_mSizeB b h) ?_ ?_ ?_; rfl; rfl); ((conv=>whnf);repeat((first|refine Ct ‹_› ?_|refine Cf ‹_› ?_|refine Ct rfl ?_|refine Cf rfl ?_|refine Bi rfl ?_|refine Bz rfl ?_|refine Lr ?_);conv=>whnf))
  refine Cnd_i (fun g => ?_) (fun g => ?_)
  · have ht := of_decide_eq_true g
    ((conv=>whnf);repeat((first|refine Ct ‹_› ?_|refine Cf ‹_› ?_|refine Ct rfl ?_|refine Cf rfl ?_|refine Bi rfl ?_|refine Bz rfl ?_|refine Lr ?_);conv=>whnf))
    (refine CallQ_some (F_mHex b.m h.wh i hi.1 (by omega)) ?_ ?_ ?_; rfl; rfl); ((conv=>whnf);repeat((first|refine Ct ‹_› ?_|refine Cf ‹_› ?_|refine Ct rfl ?_|refine Cf rfl ?_|refine Bi rfl ?_|refine Bz rfl ?_|refine Lr ?_);conv=>whnf))
    (refine CallQ_some (F_mHex b.m h.wh t h1 (by omega)) ?_ ?_ ?_; rfl; rfl); ((conv=>whnf);repeat((first|refine Ct ‹_› ?_|refine Cf ‹_› ?_|refine Ct rfl ?_|refine Cf rfl ?_|refine Bi rfl ?_|refine Bz rfl ?_|refine Lr ?_);conv=>whnf))
    (refine CallQ_some (F_hDistance _ _ _ _ (hx_b h.wh hi.1 (by omega)) (hx_b h.wh h1 (by omega))) ?_ ?_ ?_; rfl; rfl); ((conv=>whnf);repeat((first|refine Ct ‹_› ?_|refine Cf ‹_› ?_|refine Ct rfl ?_|refine Cf rfl ?_|refine Bi rfl ?_|refine Bz rfl ?_|refine Lr ?_);conv=>whnf))
    refine Cnd_i (fun g2 => ?_) (fun g2 => ?_)
    · ((conv=>whnf);repeat((first|refine Ct ‹_› ?_|refine Cf ‹_› ?_|refine Ct rfl ?_|refine Cf rfl ?_|refine Bi rfl ?_|refine Bz rfl ?_|refine Lr ?_);conv=>whnf))
      refine Rw_self ?_
      ((conv=>whnf);repeat((first|refine Ct ‹_› ?_|refine Cf ‹_› ?_|refine Ct rfl ?_|refine Cf rfl ?_|refine Bi rfl ?_|refine Bz rfl ?_|refine Lr ?_);conv=>whnf))
      refine Bnd_i ?_ ?_
      · show out.length + 1 < _
        omega
      ((conv=>whnf);repeat((first|refine Ct ‹_› ?_|refine Cf ‹_› ?_|refine Ct rfl ?_|refine Cf rfl ?_|refine Bi rfl ?_|refine Bz rfl ?_|refine Lr ?_);conv=>whnf))
      refine Rw_i (rwI (out ++ [t])) (rwI_app _ _ _ rfl) ?_
      ((conv=>whnf);repeat((first|refine Ct ‹_› ?_|refine Cf ‹_› ?_|refine Ct rfl ?_|refine Cf rfl ?_|refine Bi rfl ?_|refine Bz rfl ?_|refine Lr ?_);conv=>whnf))
      rw [if_pos (show nearP b.m i far t = true from g2)] at hnx
      refine ⟨n - 1, t + 1, out ++ [t], ?_, by omega, by omega, by omega, hnx.symm⟩
      rw [wrapI (by omega)]; rfl
    · ((conv=>whnf);repeat((first|refine Ct ‹_› ?_|refine Cf ‹_› ?_|refine Ct rfl ?_|refine Cf rfl ?_|refine Bi rfl ?_|refine Bz rfl ?_|refine Lr ?_);conv=>whnf))
      rw [if_neg (by rw [show nearP b.m i far t = false from g2]; simp)] at hnx
      refine ⟨n - 1, t + 1, out, ?_, by omega, by omega, by omega, hnx.symm⟩
      rw [wrapI (by omega)]; rfl
  · have ht := of_decide_eq_false g
    ((conv=>whnf);repeat((first|refine Ct ‹_› ?_|refine Cf ‹_› ?_|refine Ct rfl ?_|refine Cf rfl ?_|refine Bi rfl ?_|refine Bz rfl ?_|refine Lr ?_);conv=>whnf))
    rw [h3, show t.toNat = b.m.ter.length by omega]
    exact ⟨rfl, rfl, rfl⟩

def seeP (b : Brd) (i far most : Int) : Int → Bool := fun k => nearP b.m i far k && decide (vCd b i k ≤ most)

def seeL (b : Brd) (i far most : Int) : List Int := selN (seeP b i far most) b.m.ter.length

theorem F_vSeen (b : Brd) (h : GB b) (i far most : Int) (hi : 0 ≤ i ∧ i < b.m.ter.length) :
    Fun E0 56 [.agg b.cs, vI i, vI far, vI most] [] (.v (.one (.own 0 (seeL b i far most).length))) [(0, rwI (seeL b i far most))] [] := by
  have hm := h.wh.mul
  have hn := h.n
  refine Fun_of_xc k56 rfl rfl (nrC (rwI_no _) nrN) ?_
  ((conv=>whnf);repeat((first|refine Ct ‹_› ?_|refine Cf ‹_› ?_|refine Ct rfl ?_|refine Cf rfl ?_|refine Bi rfl ?_|refine Bz rfl ?_|refine Lr ?_);conv=>whnf))
  refine Rw_i (rwI []) (rwI_nil _) ?_
  ((conv=>whnf);repeat((first|refine Ct ‹_› ?_|refine Cf ‹_› ?_|refine Ct rfl ?_|refine Cf rfl ?_|refine Bi rfl ?_|refine Bz rfl ?_|refine Lr ?_);conv=>whnf))
  refine Rw_i (rwI []) (rwI_nil _) ?_
  ((conv=>whnf);repeat((first|refine Ct ‹_› ?_|refine Cf ‹_› ?_|refine Ct rfl ?_|refine Cf rfl ?_|refine Bi rfl ?_|refine Bz rfl ?_|refine Lr ?_);conv=>whnf))
  (refine CallQ_some (F_mNear b h i far hi) ?_ ?_ ?_; rfl; rfl); ((conv=>whnf);repeat((first|refine Ct ‹_› ?_|refine Cf ‹_› ?_|refine Ct rfl ?_|refine Cf rfl ?_|refine Bi rfl ?_|refine Bz rfl ?_|refine Lr ?_);conv=>whnf))
  have hL : seeL b i far most = (selN (nearP b.m i far) b.m.ter.length).filter (fun k => decide (vCd b i k ≤ most)) := by rw [selN_filter]; rfl
  have hmem := fun x (hx : x ∈ selN (nearP b.m i far) b.m.ter.length) => (selN_mem hx).1
  have hlen := selN_le (nearP b.m i far) b.m.ter.length
  rw [hL]
  generalize selN (nearP b.m i far) b.m.ter.length = L at hmem hlen ⊢
  clear hL
  refine WLoop_v2 ⟨[1, 3, 4, 9, 16, 17, 18], [4], []⟩ (fun (t : Int) (out : List Int) => hdS 34 [(1, .v (vI i)), (3, .v (vI most)), (4, .v (.one (.box 4 0))), (9, .v (.one (.own (vkey 9) out.length))), (16, .v (.one (.own (vkey 16) L.length))), (17, .v (vI L.length)), (18, .v (vI t))] [(4, b.cs)] [(vkey 9, rwI out), (vkey 16, rwI L)])
    (fun n t out => 0 ≤ t ∧ t + n = L.length ∧ out = (L.take t.toNat).filter (fun k => decide (vCd b i k ≤ most))) L.length 0 [] rfl ⟨by omega, by omega, rfl⟩ ?_
  rintro n t out ⟨h1, h2, h3⟩
  have hol : out.length ≤ 100 := by
    have a1 := List.length_filter_le (fun k => decide (vCd b i k ≤ most)) (L.take t.toNat)
    rw [List.length_take] at a1
    rw [h3]; omega
  ((conv=>whnf);repeat((first|refine Ct ‹_› ?_|refine Cf ‹_› ?_|refine Ct rfl ?_|refine Cf rfl ?_|refine Bi rfl ?_|refine Bz rfl ?_|refine Lr ?_);conv=>whnf))
  refine Cnd_i (fun g => ?_) (fun g => ?_)
  · have ht := of_decide_eq_true g
    have hft := filter_take (fun k => decide (vCd b i k ≤ most)) L h1 ht
    rw [← h3] at hft
    ((conv=>whnf);repeat((first|refine Ct ‹_› ?_|refine Cf ‹_› ?_|refine Ct rfl ?_|refine Cf rfl ?_|refine Bi rfl ?_|refine Bz rfl ?_|refine Lr ?_);conv=>whnf))
    refine Bnd_i (⟨h1, ht⟩) ?_; ((conv=>whnf);repeat((first|refine Ct ‹_› ?_|refine Cf ‹_› ?_|refine Ct rfl ?_|refine Cf rfl ?_|refine Bi rfl ?_|refine Bz rfl ?_|refine Lr ?_);conv=>whnf))
    (refine CallQ_some (F_vCode b h i (L.getD t.toNat 0) hi (hmem _ (getD_mem h1 ht))) ?_ ?_ ?_; rfl; rfl); ((conv=>whnf);repeat((first|refine Ct ‹_› ?_|refine Cf ‹_› ?_|refine Ct rfl ?_|refine Cf rfl ?_|refine Bi rfl ?_|refine Bz rfl ?_|refine Lr ?_);conv=>whnf))
    refine Cnd_i (fun g2 => ?_) (fun g2 => ?_)
    · ((conv=>whnf);repeat((first|refine Ct ‹_› ?_|refine Cf ‹_› ?_|refine Ct rfl ?_|refine Cf rfl ?_|refine Bi rfl ?_|refine Bz rfl ?_|refine Lr ?_);conv=>whnf))
      refine Rw_self ?_
      ((conv=>whnf);repeat((first|refine Ct ‹_› ?_|refine Cf ‹_› ?_|refine Ct rfl ?_|refine Cf rfl ?_|refine Bi rfl ?_|refine Bz rfl ?_|refine Lr ?_);conv=>whnf))
      refine Bnd_i ?_ ?_
      · show out.length + 1 < _
        omega
      ((conv=>whnf);repeat((first|refine Ct ‹_› ?_|refine Cf ‹_› ?_|refine Ct rfl ?_|refine Cf rfl ?_|refine Bi rfl ?_|refine Bz rfl ?_|refine Lr ?_);conv=>whnf))
      refine Rw_i (rwI (out ++ [L.getD t.toNat 0])) (rwI_app _ _ _ rfl) ?_
      ((conv=>whnf);repeat((first|refine Ct ‹_› ?_|refine Cf ‹_› ?_|refine Ct rfl ?_|refine Cf rfl ?_|refine Bi rfl ?_|refine Bz rfl ?_|refine Lr ?_);conv=>whnf))
      rw [if_pos g2] at hft
      refine ⟨n - 1, t + 1, out ++ [L.getD t.toNat 0], ?_, by omega, by omega, by omega, hft.symm⟩
      rw [wrapI (by omega)]; rfl
    · ((conv=>whnf);repeat((first|refine Ct ‹_› ?_|refine Cf ‹_› ?_|refine Ct rfl ?_|refine Cf rfl ?_|refine Bi rfl ?_|refine Bz rfl ?_|refine Lr ?_);conv=>whnf))
      rw [if_neg (by rw [g2]; simp)] at hft
      refine ⟨n - 1, t + 1, out, ?_, by omega, by omega, by omega, hft.symm⟩
      rw [wrapI (by omega)]; rfl
  · have ht := of_decide_eq_false g
    ((conv=>whnf);repeat((first|refine Ct ‹_› ?_|refine Cf ‹_› ?_|refine Ct rfl ?_|refine Cf rfl ?_|refine Bi rfl ?_|refine Bz rfl ?_|refine Lr ?_);conv=>whnf))
    rw [h3, show t.toNat = L.length by omega, List.take_length]
    exact ⟨rfl, rfl, rfl⟩

theorem F_inSight (b : Brd) (h : GB b) (i far most : Int) (hi : 0 ≤ i ∧ i < b.m.ter.length) :
    Fun E0 58 [.agg b.cs, vI i, vI far, vI most] [] (.v (.one (.own 0 (seeL b i far most).length))) [(0, rwI (seeL b i far most))] [] := by
  have hm := h.wh.mul
  have hn := h.n
  refine Fun_of_xc k58 rfl rfl (nrC (rwI_no _) nrN) ?_
  ((conv=>whnf);repeat((first|refine Ct ‹_› ?_|refine Cf ‹_› ?_|refine Ct rfl ?_|refine Cf rfl ?_|refine Bi rfl ?_|refine Bz rfl ?_|refine Lr ?_);conv=>whnf))
  refine Rw_i (rwI []) (rwI_nil _) ?_
  ((conv=>whnf);repeat((first|refine Ct ‹_› ?_|refine Cf ‹_› ?_|refine Ct rfl ?_|refine Cf rfl ?_|refine Bi rfl ?_|refine Bz rfl ?_|refine Lr ?_);conv=>whnf))
  refine Rw_i (rwI []) (rwI_nil _) ?_
  ((conv=>whnf);repeat((first|refine Ct ‹_› ?_|refine Cf ‹_› ?_|refine Ct rfl ?_|refine Cf rfl ?_|refine Bi rfl ?_|refine Bz rfl ?_|refine Lr ?_);conv=>whnf))
  refine WLoop_v2 ⟨[1, 2, 3, 4, 9, 17, 18], [4], []⟩ (fun (t : Int) (out : List Int) => hdS 48 [(1, .v (vI i)), (2, .v (vI far)), (3, .v (vI most)), (4, .v (.one (.box 4 0))), (9, .v (.one (.own (vkey 9) out.length))), (17, .v (vI b.m.ter.length)), (18, .v (vI t))] [(4, b.cs)] [(vkey 9, rwI out)])
    (fun n t out => 0 ≤ t ∧ t + n = b.m.ter.length ∧ out = selN (seeP b i far most) t.toNat) b.m.ter.length 0 [] rfl ⟨by omega, by omega, rfl⟩ ?_
  rintro n t out ⟨h1, h2, h3⟩
  have hle := selN_le (seeP b i far most) t.toNat
  rw [← h3] at hle
  have hnx : selN (seeP b i far most) (t + 1).toNat = if seeP b i far most t = true then out ++ [t] else out := by
    rw [show (t + 1).toNat = t.toNat + 1 by omega, selN, ← h3, show ((t.toNat : Nat) : Int) = t by omega]
  ((conv=>whnf);repeat((first|refine Ct ‹_› ?_|refine Cf ‹_› ?_|refine Ct rfl ?_|refine Cf rfl ?_|refine Bi rfl ?_|refine Bz rfl ?_|refine Lr ?_);conv=>whnf))
  refine Cnd_i (fun g => ?_) (fun g => ?_)
  · have ht := of_decide_eq_true g
    ((conv=>whnf);repeat((first|refine Ct ‹_› ?_|refine Cf ‹_› ?_|refine Ct rfl ?_|refine Cf rfl ?_|refine Bi rfl ?_|refine Bz rfl ?_|refine Lr ?_);conv=>whnf))
    (refine CallQ_some (F_hexOf b.m h.wh i hi.1 (by omega)) ?_ ?_ ?_; rfl; rfl); ((conv=>whnf);repeat((first|refine Ct ‹_› ?_|refine Cf ‹_› ?_|refine Ct rfl ?_|refine Cf rfl ?_|refine Bi rfl ?_|refine Bz rfl ?_|refine Lr ?_);conv=>whnf))
    (refine CallQ_some (F_hexOf b.m h.wh t h1 (by omega)) ?_ ?_ ?_; rfl; rfl); ((conv=>whnf);repeat((first|refine Ct ‹_› ?_|refine Cf ‹_› ?_|refine Ct rfl ?_|refine Cf rfl ?_|refine Bi rfl ?_|refine Bz rfl ?_|refine Lr ?_);conv=>whnf))
    (refine CallQ_some (F_distance _ _ _ _ (hx_b h.wh hi.1 (by omega)) (hx_b h.wh h1 (by omega))) ?_ ?_ ?_; rfl; rfl); ((conv=>whnf);repeat((first|refine Ct ‹_› ?_|refine Cf ‹_› ?_|refine Ct rfl ?_|refine Cf rfl ?_|refine Bi rfl ?_|refine Bz rfl ?_|refine Lr ?_);conv=>whnf))
    refine Cnd_i (fun g2 => ?_) (fun g2 => ?_)
    · have d2 : nearP b.m i far t = false := by
        have := of_decide_eq_true g2
        exact decide_eq_false (by show ¬ dsM b.m i t ≤ far; unfold dsM; omega)
      ((conv=>whnf);repeat((first|refine Ct ‹_› ?_|refine Cf ‹_› ?_|refine Ct rfl ?_|refine Cf rfl ?_|refine Bi rfl ?_|refine Bz rfl ?_|refine Lr ?_);conv=>whnf))
      rw [if_neg (by rw [seeP, d2]; simp)] at hnx
      refine ⟨n - 1, t + 1, out, ?_, by omega, by omega, by omega, hnx.symm⟩
      rw [wrapI (by omega)]; rfl
    have d2 : nearP b.m i far t = true := by
      have := of_decide_eq_false g2
      exact decide_eq_true (by show dsM b.m i t ≤ far; unfold dsM; omega)
    ((conv=>whnf);repeat((first|refine Ct ‹_› ?_|refine Cf ‹_› ?_|refine Ct rfl ?_|refine Cf rfl ?_|refine Bi rfl ?_|refine Bz rfl ?_|refine Lr ?_);conv=>whnf))
    (refine CallQ_some (F_sightOf b h i t hi ⟨h1, ht⟩) ?_ ?_ ?_; rfl; rfl); ((conv=>whnf);repeat((first|refine Ct ‹_› ?_|refine Cf ‹_› ?_|refine Ct rfl ?_|refine Cf rfl ?_|refine Bi rfl ?_|refine Bz rfl ?_|refine Lr ?_);conv=>whnf))
    refine Cnd_i (fun g3 => ?_) (fun g3 => ?_)
    · ((conv=>whnf);repeat((first|refine Ct ‹_› ?_|refine Cf ‹_› ?_|refine Ct rfl ?_|refine Cf rfl ?_|refine Bi rfl ?_|refine Bz rfl ?_|refine Lr ?_);conv=>whnf))
      refine Rw_self ?_
      ((conv=>whnf);repeat((first|refine Ct ‹_› ?_|refine Cf ‹_› ?_|refine Ct rfl ?_|refine Cf rfl ?_|refine Bi rfl ?_|refine Bz rfl ?_|refine Lr ?_);conv=>whnf))
      refine Bnd_i ?_ ?_
      · show out.length + 1 < _
        omega
      ((conv=>whnf);repeat((first|refine Ct ‹_› ?_|refine Cf ‹_› ?_|refine Ct rfl ?_|refine Cf rfl ?_|refine Bi rfl ?_|refine Bz rfl ?_|refine Lr ?_);conv=>whnf))
      refine Rw_i (rwI (out ++ [t])) (rwI_app _ _ _ rfl) ?_
      ((conv=>whnf);repeat((first|refine Ct ‹_› ?_|refine Cf ‹_› ?_|refine Ct rfl ?_|refine Cf rfl ?_|refine Bi rfl ?_|refine Bz rfl ?_|refine Lr ?_);conv=>whnf))
      rw [if_pos (by rw [seeP, d2, g3]; rfl)] at hnx
      refine ⟨n - 1, t + 1, out ++ [t], ?_, by omega, by omega, by omega, hnx.symm⟩
      rw [wrapI (by omega)]; rfl
    · ((conv=>whnf);repeat((first|refine Ct ‹_› ?_|refine Cf ‹_› ?_|refine Ct rfl ?_|refine Cf rfl ?_|refine Bi rfl ?_|refine Bz rfl ?_|refine Lr ?_);conv=>whnf))
      rw [if_neg (by rw [seeP, d2, g3]; simp)] at hnx
      refine ⟨n - 1, t + 1, out, ?_, by omega, by omega, by omega, hnx.symm⟩
      rw [wrapI (by omega)]; rfl
  · have ht := of_decide_eq_false g
    ((conv=>whnf);repeat((first|refine Ct ‹_› ?_|refine Cf ‹_› ?_|refine Ct rfl ?_|refine Cf rfl ?_|refine Bi rfl ?_|refine Bz rfl ?_|refine Lr ?_);conv=>whnf))
    rw [h3, show t.toNat = b.m.ter.length by omega]
    exact ⟨rfl, rfl, rfl⟩

def vwL (b : Brd) (k i : Int) : List Int := seeL b i (b.r.knd.getD k.toNat Knd.d).view 1

theorem seeL_le {b : Brd} (h : GB b) (i far most : Int) : (seeL b i far most).length ≤ 100 := by
  have := selN_le (seeP b i far most) b.m.ter.length
  have := h.n
  have := h.wh.mul
  unfold seeL
  omega

theorem F_vBy (b : Brd) (h : GB b) (k i : Int) (hk : 0 ≤ k ∧ k < b.r.knd.length) (hi : 0 ≤ i ∧ i < b.m.ter.length) :
    Fun E0 59 [.agg b.cs, vI k, vI i] [] (.v (.one (.own 0 (vwL b k i).length))) [(0, rwI (vwL b k i))] [] := by
  refine Fun_of_xc k59 rfl rfl (nrC (rwI_no _) nrN) ?_
  ((conv=>whnf);repeat((first|refine Ct ‹_› ?_|refine Cf ‹_› ?_|refine Ct rfl ?_|refine Cf rfl ?_|refine Bi rfl ?_|refine Bz rfl ?_|refine Lr ?_);conv=>whnf))
  refine Rw_i (rwI []) (rwI_nil _) ?_
  ((conv=>whnf);repeat((first|refine Ct ‹_› ?_|refine Cf ‹_› ?_|refine Ct rfl ?_|refine Cf rfl ?_|refine Bi rfl ?_|refine Bz rfl ?_|refine Lr ?_);conv=>whnf))
  refine Bnd_i (⟨hk.1, hk.2⟩) ?_; ((conv=>whnf);repeat((first|refine Ct ‹_› ?_|refine Cf ‹_› ?_|refine Ct rfl ?_|refine Cf rfl ?_|refine Bi rfl ?_|refine Bz rfl ?_|refine Lr ?_);conv=>whnf))
  (refine CallQ_some (F_vSeen b h i _ 1 hi) ?_ ?_ ?_; rfl; rfl); ((conv=>whnf);repeat((first|refine Ct ‹_› ?_|refine Cf ‹_› ?_|refine Ct rfl ?_|refine Cf rfl ?_|refine Bi rfl ?_|refine Bz rfl ?_|refine Lr ?_);conv=>whnf))
  exact ⟨rfl, rfl, rfl⟩

theorem F_seenBy (b : Brd) (h : GB b) (k i : Int) (hk : 0 ≤ k ∧ k < b.r.knd.length) (hi : 0 ≤ i ∧ i < b.m.ter.length) :
    Fun E0 62 [.agg b.cs, vI k, vI i] [] (.v (.one (.own 0 (vwL b k i).length))) [(0, rwI (vwL b k i))] [] := by
  refine Fun_of_xc k62 rfl rfl (nrC (rwI_no _) nrN) ?_
  ((conv=>whnf);repeat((first|refine Ct ‹_› ?_|refine Cf ‹_› ?_|refine Ct rfl ?_|refine Cf rfl ?_|refine Bi rfl ?_|refine Bz rfl ?_|refine Lr ?_);conv=>whnf))
  refine Rw_i (rwI []) (rwI_nil _) ?_
  ((conv=>whnf);repeat((first|refine Ct ‹_› ?_|refine Cf ‹_› ?_|refine Ct rfl ?_|refine Cf rfl ?_|refine Bi rfl ?_|refine Bz rfl ?_|refine Lr ?_);conv=>whnf))
  refine Bnd_i (⟨hk.1, hk.2⟩) ?_; ((conv=>whnf);repeat((first|refine Ct ‹_› ?_|refine Cf ‹_› ?_|refine Ct rfl ?_|refine Cf rfl ?_|refine Bi rfl ?_|refine Bz rfl ?_|refine Lr ?_);conv=>whnf))
  (refine CallQ_some (F_inSight b h i _ 1 hi) ?_ ?_ ?_; rfl; rfl); ((conv=>whnf);repeat((first|refine Ct ‹_› ?_|refine Cf ‹_› ?_|refine Ct rfl ?_|refine Cf rfl ?_|refine Bi rfl ?_|refine Bz rfl ?_|refine Lr ?_);conv=>whnf))
  exact ⟨rfl, rfl, rfl⟩

def okKi (b : Brd) (k i : Int) : Bool := okBrd b && In k 0 (b.r.knd.length - 1) && In i 0 (b.m.w * b.m.h - 1)

structure KiOk (b : Brd) (k i : Int) : Prop where
  gb : GB b
  k : 0 ≤ k ∧ k < b.r.knd.length
  i : 0 ≤ i ∧ i < b.m.ter.length

theorem KiOk.of {b : Brd} (ho : b.Ok) {k i : Int} (h : okKi b k i = true) : KiOk b k i := by
  simp only [okKi, Bool.and_eq_true] at h
  have g := GB.of ho h.1.1
  have a2 := of_decide_eq_true h.1.2
  have a3 := of_decide_eq_true h.2
  have := g.n
  exact ⟨g, by omega, by omega⟩

def sbyR (b : Brd) (k i : Int) : List Int × Bool := if okKi b k i = true then (vwL b k i, true) else ([], false)

theorem sbyR_len (b : Brd) (k i : Int) (ho : b.Ok) : (sbyR b k i).1.length ≤ 1048576 := by
  unfold sbyR
  split
  · rename_i g
    have := seeL_le (KiOk.of ho g).gb i (b.r.knd.getD k.toNat Knd.d).view 1
    show (seeL _ _ _ _).length ≤ _
    omega
  · exact Nat.zero_le _

theorem F_SeenBy (b : Brd) (ho : b.Ok) (k i : Int) :
    Fun E0 28 [.agg b.cs, vI k, vI i] [] (.tup [.one (.own 0 (sbyR b k i).1.length), vB (sbyR b k i).2]) [(0, rwI (sbyR b k i).1)] [] := by
  refine Fun_of_xc k28 rfl rfl (nrC (rwI_no _) nrN) ?_
  ((conv=>whnf);repeat((first|refine Ct ‹_› ?_|refine Cf ‹_› ?_|refine Ct rfl ?_|refine Cf rfl ?_|refine Bi rfl ?_|refine Bz rfl ?_|refine Lr ?_);conv=>whnf))
  refine Rw_i (rwI []) (rwI_nil _) ?_
  ((conv=>whnf);repeat((first|refine Ct ‹_› ?_|refine Cf ‹_› ?_|refine Ct rfl ?_|refine Cf rfl ?_|refine Bi rfl ?_|refine Bz rfl ?_|refine Lr ?_);conv=>whnf))
  (refine CallQ_some (F_bAt b ho k i) ?_ ?_ ?_; rfl; rfl); ((conv=>whnf);repeat((first|refine Ct ‹_› ?_|refine Cf ‹_› ?_|refine Ct rfl ?_|refine Cf rfl ?_|refine Bi rfl ?_|refine Bz rfl ?_|refine Lr ?_);conv=>whnf))
  refine Cnd_i (fun g => ?_) (fun g => ?_)
  · have e0 : okKi b k i = false := by first | (rwa [Bool.not_eq_true'] at g) | (rwa [Bool.not_eq_false'] at g) | (simpa using g)
    ((conv=>whnf);repeat((first|refine Ct ‹_› ?_|refine Cf ‹_› ?_|refine Ct rfl ?_|refine Cf rfl ?_|refine Bi rfl ?_|refine Bz rfl ?_|refine Lr ?_);conv=>whnf))
    refine Rw_i (rwI []) (rwI_nil _) ?_
    ((conv=>whnf);repeat((first|refine Ct ‹_› ?_|refine Cf ‹_› ?_|refine Ct rfl ?_|refine Cf rfl ?_|refine Bi rfl ?_|refine Bz rfl ?_|refine Lr ?_);conv=>whnf))
    rw [sbyR, e0]
    exact ⟨rfl, rfl, rfl⟩
  have e0 : okKi b k i = true := by first | (rwa [Bool.not_eq_true'] at g) | (rwa [Bool.not_eq_false'] at g) | (simpa using g)
  have p := KiOk.of ho e0
  ((conv=>whnf);repeat((first|refine Ct ‹_› ?_|refine Cf ‹_› ?_|refine Ct rfl ?_|refine Cf rfl ?_|refine Bi rfl ?_|refine Bz rfl ?_|refine Lr ?_);conv=>whnf))
  (refine CallQ_some (F_vBy b p.gb k i p.k p.i) ?_ ?_ ?_; rfl; rfl); ((conv=>whnf);repeat((first|refine Ct ‹_› ?_|refine Cf ‹_› ?_|refine Ct rfl ?_|refine Cf rfl ?_|refine Bi rfl ?_|refine Bz rfl ?_|refine Lr ?_);conv=>whnf))
  rw [sbyR, e0]
  exact ⟨rfl, rfl, rfl⟩

theorem F_SeenByI (b : Brd) (ho : b.Ok) (k i : Int) :
    Fun E0 29 [.agg b.cs, vI k, vI i] [] (.tup [.one (.own 0 (sbyR b k i).1.length), vB (sbyR b k i).2]) [(0, rwI (sbyR b k i).1)] [] := by
  refine Fun_of_xc k29 rfl rfl (nrC (rwI_no _) nrN) ?_
  ((conv=>whnf);repeat((first|refine Ct ‹_› ?_|refine Cf ‹_› ?_|refine Ct rfl ?_|refine Cf rfl ?_|refine Bi rfl ?_|refine Bz rfl ?_|refine Lr ?_);conv=>whnf))
  refine Rw_i (rwI []) (rwI_nil _) ?_
  ((conv=>whnf);repeat((first|refine Ct ‹_› ?_|refine Cf ‹_› ?_|refine Ct rfl ?_|refine Cf rfl ?_|refine Bi rfl ?_|refine Bz rfl ?_|refine Lr ?_);conv=>whnf))
  (refine CallQ_some (F_isKindOf b ho k) ?_ ?_ ?_; rfl; rfl); ((conv=>whnf);repeat((first|refine Ct ‹_› ?_|refine Cf ‹_› ?_|refine Ct rfl ?_|refine Cf rfl ?_|refine Bi rfl ?_|refine Bz rfl ?_|refine Lr ?_);conv=>whnf))
  refine Cnd_i (fun g => ?_) (fun g => ?_)
  · have e0 : (okBrd b && In k 0 (b.r.knd.length - 1)) = false := by first | (rwa [Bool.not_eq_true'] at g) | (simpa using g)
    ((conv=>whnf);repeat((first|refine Ct ‹_› ?_|refine Cf ‹_› ?_|refine Ct rfl ?_|refine Cf rfl ?_|refine Bi rfl ?_|refine Bz rfl ?_|refine Lr ?_);conv=>whnf))
    refine Rw_i (rwI []) (rwI_nil _) ?_
    ((conv=>whnf);repeat((first|refine Ct ‹_› ?_|refine Cf ‹_› ?_|refine Ct rfl ?_|refine Cf rfl ?_|refine Bi rfl ?_|refine Bz rfl ?_|refine Lr ?_);conv=>whnf))
    rw [sbyR, okKi, e0, Bool.false_and]
    exact ⟨rfl, rfl, rfl⟩
  have e1 : (okBrd b && In k 0 (b.r.knd.length - 1)) = true := by first | (rwa [Bool.not_eq_false'] at g) | (simpa using g)
  have hgb : GB b := by simp only [Bool.and_eq_true] at e1; exact GB.of ho e1.1
  have hm := hgb.wh.mul
  have hn := hgb.n
  ((conv=>whnf);repeat((first|refine Ct ‹_› ?_|refine Cf ‹_› ?_|refine Ct rfl ?_|refine Cf rfl ?_|refine Bi rfl ?_|refine Bz rfl ?_|refine Lr ?_);conv=>whnf))
  (refine CallQ_some (F_sizeOf b) ?_ ?_ ?_; rfl; rfl); ((conv=>whnf);repeat((first|refine Ct ‹_› ?_|refine Cf ‹_› ?_|refine Ct rfl ?_|refine Cf rfl ?_|refine Bi rfl ?_|refine Bz rfl ?_|refine Lr ?_);conv=>whnf))
  (refine CallQ_some (F_isIndex i b.m.ter.length ⟨by unfold i64; omega, by omega⟩) ?_ ?_ ?_; rfl; rfl); ((conv=>whnf);repeat((first|refine Ct ‹_› ?_|refine Cf ‹_› ?_|refine Ct rfl ?_|refine Cf rfl ?_|refine Bi rfl ?_|refine Bz rfl ?_|refine Lr ?_);conv=>whnf))
  refine Cnd_i (fun g => ?_) (fun g => ?_)
  · have e0 : In i 0 (b.m.w * b.m.h - 1) = false := by rw [← hn]; simpa using g
    ((conv=>whnf);repeat((first|refine Ct ‹_› ?_|refine Cf ‹_› ?_|refine Ct rfl ?_|refine Cf rfl ?_|refine Bi rfl ?_|refine Bz rfl ?_|refine Lr ?_);conv=>whnf))
    refine Rw_i (rwI []) (rwI_nil _) ?_
    ((conv=>whnf);repeat((first|refine Ct ‹_› ?_|refine Cf ‹_› ?_|refine Ct rfl ?_|refine Cf rfl ?_|refine Bi rfl ?_|refine Bz rfl ?_|refine Lr ?_);conv=>whnf))
    rw [sbyR, okKi, e1, e0, Bool.true_and]
    exact ⟨rfl, rfl, rfl⟩
  have e2 : In i 0 (b.m.w * b.m.h - 1) = true := by rw [← hn]; simpa using g
  have e0 : okKi b k i = true := by rw [okKi, e1, e2]; rfl
  have p := KiOk.of ho e0
  ((conv=>whnf);repeat((first|refine Ct ‹_› ?_|refine Cf ‹_› ?_|refine Ct rfl ?_|refine Cf rfl ?_|refine Bi rfl ?_|refine Bz rfl ?_|refine Lr ?_);conv=>whnf))
  (refine CallQ_some (F_seenBy b p.gb k i p.k p.i) ?_ ?_ ?_; rfl; rfl); ((conv=>whnf);repeat((first|refine Ct ‹_› ?_|refine Cf ‹_› ?_|refine Ct rfl ?_|refine Cf rfl ?_|refine Bi rfl ?_|refine Bz rfl ?_|refine Lr ?_);conv=>whnf))
  rw [sbyR, e0]
  exact ⟨rfl, rfl, rfl⟩

theorem F_FnExactSeenBy (x0 : Brd) (x1 : Int) (x2 : Int) (o0 : x0.Ok) (o1 : i64 x1) (o2 : i64 x2) :
    Fun E0 7 [.agg x0.cs, vI x1, vI x2] [] (.v (vB true)) [] [] := by
  have hS := F_SeenBy x0 o0 x1 x2
  have hI := F_SeenByI x0 o0 x1 x2
  have hr0 : (sbyR x0 x1 x2).1.length ≤ 1048576 := sbyR_len x0 x1 x2 o0
  revert hS hI hr0
  generalize sbyR x0 x1 x2 = RR
  obtain ⟨r0, r1⟩ := RR
  intro hS hI hr0
  dsimp only at hS
  dsimp only at hI
  dsimp only at hr0
  refine Fun_of_xc k7 rfl rfl (fun k q h => by cases h) ?_
  ((conv=>whnf);repeat((first|refine Ct ‹_› ?_|refine Cf ‹_› ?_|refine Ct rfl ?_|refine Cf rfl ?_|refine Bi rfl ?_|refine Bz rfl ?_|refine Lr ?_);conv=>whnf))
  (refine CallQ_some (F_szBoard x0 o0 1048576 (by omega) (by omega)) ?_ ?_ ?_; rfl; rfl); ((conv=>whnf);repeat((first|refine Ct ‹_› ?_|refine Cf ‹_› ?_|refine Ct rfl ?_|refine Cf rfl ?_|refine Bi rfl ?_|refine Bz rfl ?_|refine Lr ?_);conv=>whnf))
  refine Cnd_i (fun g => ?_) (fun g => ?_)
  · ((conv=>whnf);repeat((first|refine Ct ‹_› ?_|refine Cf ‹_› ?_|refine Ct rfl ?_|refine Cf rfl ?_|refine Bi rfl ?_|refine Bz rfl ?_|refine Lr ?_);conv=>whnf))
    exact ⟨rfl, rfl, rfl⟩
  have sm0 := szB_sm (b := x0) (x := 1048576) (by omega) (by omega) (of_decide_eq_false g)
  have s0 := sm0.1
  have sb0 := sm0.2
  have sc0 := of_decide_eq_false g
  ((conv=>whnf);repeat((first|refine Ct ‹_› ?_|refine Cf ‹_› ?_|refine Ct rfl ?_|refine Cf rfl ?_|refine Bi rfl ?_|refine Bz rfl ?_|refine Lr ?_);conv=>whnf))
  (refine CallQ_some (F_toBoard x0 s0) ?_ ?_ ?_; rfl; rfl); ((conv=>whnf);repeat((first|refine Ct ‹_› ?_|refine Cf ‹_› ?_|refine Ct rfl ?_|refine Cf rfl ?_|refine Bi rfl ?_|refine Bz rfl ?_|refine Lr ?_);conv=>whnf))
  refine CallQ_eq (snapB x0 _) ?_
  (refine CallQ_some (hS) ?_ ?_ ?_; rfl; rfl); ((conv=>whnf);repeat((first|refine Ct ‹_› ?_|refine Cf ‹_› ?_|refine Ct rfl ?_|refine Cf rfl ?_|refine Bi rfl ?_|refine Bz rfl ?_|refine Lr ?_);conv=>whnf))
  (refine CallQ_some (F_toBoard x0 s0) ?_ ?_ ?_; rfl; rfl); ((conv=>whnf);repeat((first|refine Ct ‹_› ?_|refine Cf ‹_› ?_|refine Ct rfl ?_|refine Cf rfl ?_|refine Bi rfl ?_|refine Bz rfl ?_|refine Lr ?_);conv=>whnf))
  refine CallQ_eq (snapB x0 _) ?_
  (refine CallQ_some (hI) ?_ ?_ ?_; rfl; rfl); ((conv=>whnf);repeat((first|refine Ct ‹_› ?_|refine Cf ‹_› ?_|refine Ct rfl ?_|refine Cf rfl ?_|refine Bi rfl ?_|refine Bz rfl ?_|refine Lr ?_);conv=>whnf))
  (refine CallQ_some (F_eqIntS r0 hr0) ?_ ?_ ?_; rfl; rfl); ((conv=>whnf);repeat((first|refine Ct ‹_› ?_|refine Cf ‹_› ?_|refine Ct rfl ?_|refine Cf rfl ?_|refine Bi rfl ?_|refine Bz rfl ?_|refine Lr ?_);conv=>whnf))
  repeat (refine Cnd_f (by simp) ?_; ((conv=>whnf);repeat((first|refine Ct ‹_› ?_|refine Cf ‹_› ?_|refine Ct rfl ?_|refine Cf rfl ?_|refine Bi rfl ?_|refine Bz rfl ?_|refine Lr ?_);conv=>whnf)))
  repeat (refine Cnd_f (by simp) ?_; ((conv=>whnf);repeat((first|refine Ct ‹_› ?_|refine Cf ‹_› ?_|refine Ct rfl ?_|refine Cf rfl ?_|refine Bi rfl ?_|refine Bz rfl ?_|refine Lr ?_);conv=>whnf)))
  (refine CallQ_some (F_toBoard x0 s0) ?_ ?_ ?_; rfl; rfl); ((conv=>whnf);repeat((first|refine Ct ‹_› ?_|refine Cf ‹_› ?_|refine Ct rfl ?_|refine Cf rfl ?_|refine Bi rfl ?_|refine Bz rfl ?_|refine Lr ?_);conv=>whnf))
  refine CallQ_eq (snapBB x0) ?_
  (refine CallQ_some (F_eqBoard x0 s0) ?_ ?_ ?_; rfl; rfl); ((conv=>whnf);repeat((first|refine Ct ‹_› ?_|refine Cf ‹_› ?_|refine Ct rfl ?_|refine Cf rfl ?_|refine Bi rfl ?_|refine Bz rfl ?_|refine Lr ?_);conv=>whnf))
  refine CallR_e (F_markBoard x0 s0 1 (by omega) (by omega)) ?_
  rintro _ _ o' ⟨k0, ka0, kb0, rfl, rfl, hs⟩
  obtain ⟨⟨_, q0⟩, ⟨_, q1⟩, ⟨_, q2⟩, ⟨_, q3⟩, ⟨_, q4⟩, rfl, ⟨⟩, ⟨⟩, ⟨⟩, ⟨⟩, ⟨⟩, t0, t1, t2, t3, t4⟩ := shape5 hs
  refine ⟨⟨rfl, t0.1, t0.2.1, t0.2.2, rfl, t1.1, t1.2.1, t1.2.2, rfl, t2.1, t2.2.1, t2.2.2, rfl, t3.1, t3.2.1, t3.2.2, rfl, t4.1, t4.2.1, t4.2.2, trivial⟩, rfl, rfl, ?_⟩
  conv => whnf
  refine ⟨rfl, ?_⟩
  ((conv=>whnf);repeat((first|refine Ct ‹_› ?_|refine Cf ‹_› ?_|refine Ct rfl ?_|refine Cf rfl ?_|refine Bi rfl ?_|refine Bz rfl ?_|refine Lr ?_);conv=>whnf))
  have hkn : decide ((k0 : Int) < 0) = false := decide_eq_false (by omega)
  ((conv=>whnf);repeat((first|refine Ct ‹_› ?_|refine Cf ‹_› ?_|refine Ct rfl ?_|refine Cf rfl ?_|refine Bi rfl ?_|refine Bz rfl ?_|refine Lr ?_);conv=>whnf))
  (refine CallQ_some (F_eqIntS r0 hr0) ?_ ?_ ?_; rfl; rfl); ((conv=>whnf);repeat((first|refine Ct ‹_› ?_|refine Cf ‹_› ?_|refine Ct rfl ?_|refine Cf rfl ?_|refine Bi rfl ?_|refine Bz rfl ?_|refine Lr ?_);conv=>whnf))
  repeat (refine Cnd_f (by simp) ?_; ((conv=>whnf);repeat((first|refine Ct ‹_› ?_|refine Cf ‹_› ?_|refine Ct rfl ?_|refine Cf rfl ?_|refine Bi rfl ?_|refine Bz rfl ?_|refine Lr ?_);conv=>whnf)))
  repeat (refine Cnd_f (by simp) ?_; ((conv=>whnf);repeat((first|refine Ct ‹_› ?_|refine Cf ‹_› ?_|refine Ct rfl ?_|refine Cf rfl ?_|refine Bi rfl ?_|refine Bz rfl ?_|refine Lr ?_);conv=>whnf)))
  (refine CallR_some (F_markIntS r0 1 hr0 (by omega) (by omega)) (by repeat (first | exact trivial | refine ⟨rfl, rfl, rfl, rfl, ?_⟩)) ?_ ?_ ?_ ?_; rfl; rfl; rfl); ((conv=>whnf);repeat((first|refine Ct ‹_› ?_|refine Cf ‹_› ?_|refine Ct rfl ?_|refine Cf rfl ?_|refine Bi rfl ?_|refine Bz rfl ?_|refine Lr ?_);conv=>whnf))
  (refine CallQ_some (F_heldIntS 1 r0.length hr0 (by omega) (by omega)) ?_ ?_ ?_; rfl; rfl); ((conv=>whnf);repeat((first|refine Ct ‹_› ?_|refine Cf ‹_› ?_|refine Ct rfl ?_|refine Cf rfl ?_|refine Bi rfl ?_|refine Bz rfl ?_|refine Lr ?_);conv=>whnf))
  have hq0 : decide (1 + (r0.length : Int) < 0) = false := decide_eq_false (by omega)
  ((conv=>whnf);repeat((first|refine Ct ‹_› ?_|refine Cf ‹_› ?_|refine Ct rfl ?_|refine Cf rfl ?_|refine Bi rfl ?_|refine Bz rfl ?_|refine Lr ?_);conv=>whnf))
  repeat (refine Cnd_f (by simp) ?_; ((conv=>whnf);repeat((first|refine Ct ‹_› ?_|refine Cf ‹_› ?_|refine Ct rfl ?_|refine Cf rfl ?_|refine Bi rfl ?_|refine Bz rfl ?_|refine Lr ?_);conv=>whnf)))
  (refine CallQ_some (F_toBoard x0 s0) ?_ ?_ ?_; rfl; rfl); ((conv=>whnf);repeat((first|refine Ct ‹_› ?_|refine Cf ‹_› ?_|refine Ct rfl ?_|refine Cf rfl ?_|refine Bi rfl ?_|refine Bz rfl ?_|refine Lr ?_);conv=>whnf))
  refine CallQ_eq (snapB x0 _) ?_
  (refine CallQ_some (hI) ?_ ?_ ?_; rfl; rfl); ((conv=>whnf);repeat((first|refine Ct ‹_› ?_|refine Cf ‹_› ?_|refine Ct rfl ?_|refine Cf rfl ?_|refine Bi rfl ?_|refine Bz rfl ?_|refine Lr ?_);conv=>whnf))
  (refine CallQ_some (F_eqIntS r0 hr0) ?_ ?_ ?_; rfl; rfl); ((conv=>whnf);repeat((first|refine Ct ‹_› ?_|refine Cf ‹_› ?_|refine Ct rfl ?_|refine Cf rfl ?_|refine Bi rfl ?_|refine Bz rfl ?_|refine Lr ?_);conv=>whnf))
  repeat (refine Cnd_f (by simp) ?_; ((conv=>whnf);repeat((first|refine Ct ‹_› ?_|refine Cf ‹_› ?_|refine Ct rfl ?_|refine Cf rfl ?_|refine Bi rfl ?_|refine Bz rfl ?_|refine Lr ?_);conv=>whnf)))
  repeat (refine Cnd_f (by simp) ?_; ((conv=>whnf);repeat((first|refine Ct ‹_› ?_|refine Cf ‹_› ?_|refine Ct rfl ?_|refine Cf rfl ?_|refine Bi rfl ?_|refine Bz rfl ?_|refine Lr ?_);conv=>whnf)))
  (refine CallQ_some (F_heldIntS 1 r0.length hr0 (by omega) (by omega)) ?_ ?_ ?_; rfl; rfl); ((conv=>whnf);repeat((first|refine Ct ‹_› ?_|refine Cf ‹_› ?_|refine Ct rfl ?_|refine Cf rfl ?_|refine Bi rfl ?_|refine Bz rfl ?_|refine Lr ?_);conv=>whnf))
  repeat (refine Cnd_f (by simp) ?_; ((conv=>whnf);repeat((first|refine Ct ‹_› ?_|refine Cf ‹_› ?_|refine Ct rfl ?_|refine Cf rfl ?_|refine Bi rfl ?_|refine Bz rfl ?_|refine Lr ?_);conv=>whnf)))
  exact ⟨rfl, rfl, rfl⟩

structure KdOk (b : Brd) (k : Int) : Prop where
  gb : GB b
  k : 0 ≤ k ∧ k < b.r.knd.length

structure SpD (N : Nat) (g : Int → Int → Prop) (op : Int → Bool) (S : Int → Prop) (a : Int) (L B : List Int) (n : Int) : Prop where
  hL : DstS N g op S L
  hB : DstS N g op (fun k => k = a) B
  sym : ∀ j k, g j k → g k j
  gb : ∀ j k, g j k → (0 ≤ j ∧ j < N)
  so : ∀ k, S k → op k = true
  sb : ∀ k, S k → 0 ≤ k ∧ k < N
  ab : 0 ≤ a ∧ a < N
  n0 : 0 ≤ n
  hn : L.getD a.toNat 0 = n
namespace SpD

variable {N : Nat} {g : Int → Int → Prop} {op : Int → Bool} {S : Int → Prop} {a n : Int} {L B : List Int}

end SpD
end Go.Proofs.YtkflmicnfjfmiaaGreatDoor.Ab
