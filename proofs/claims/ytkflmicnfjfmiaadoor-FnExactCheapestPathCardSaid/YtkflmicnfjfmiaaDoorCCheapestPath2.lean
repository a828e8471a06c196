/- Contracts of the functions that FnExactCheapestPath reaches, by the abstract machine (part 2).
   Conditions: none. -/
import Derived.Test.YtkflmicnfjfmiaaDoorCCheapestPath1
set_option linter.unusedVariables false
set_option linter.unusedSimpArgs false
namespace Go.Proofs.YtkflmicnfjfmiaaDoor.Ab
open Go Go.RowKit
attribute [local irreducible] Cnd Bnd Rw CallQ CallR Bts Isn Lc WLoop
set_option maxRecDepth 100000
set_option maxHeartbeats 1000000
theorem F_relaxed (b : Brd) (h : GB b) (k w i : Int) (bk : Bool) (av : List Int) (k0 : 0 ≤ k ∧ k < b.r.knd.length) (w0 : 0 ≤ w ∧ w ≤ 2) (i0 : 0 ≤ i ∧ i < b.m.ter.length) (hav : av.length ≤ maxLen) :
    Fun E0 21 [.agg b.cs, vI k, vI w, vI i, vB bk, .one (roI av)] [] (.v (.one (.own 0 (dL b k w i av bk).length))) [(0, rwI (dL b k w i av bk))] [] := by
  have hm := h.wh.mul
  have hn := h.n
  have he := eok_s h k0 w0 av bk
  have hM : (0 : Int) + 20 * (b.m.ter.length : Int) + 20 < ((4000 : Nat) : Int) := by omega
  refine Fun_of_xc k21 rfl rfl (nrC (rwI_no _) nrN) ?_
  ((conv=>whnf);repeat((first|refine Ct ‹_› ?_|refine Cf ‹_› ?_|refine Ct rfl ?_|refine Cf rfl ?_|refine Bi rfl ?_|refine Bz rfl ?_|refine Lr ?_);conv=>whnf))
  refine Rw_i (rwI []) (rwI_nil _) ?_
  ((conv=>whnf);repeat((first|refine Ct ‹_› ?_|refine Cf ‹_› ?_|refine Ct rfl ?_|refine Cf rfl ?_|refine Bi rfl ?_|refine Bz rfl ?_|refine Lr ?_);conv=>whnf))
  (refine CallQ_some (F_sizeOf b) ?_ ?_ ?_; rfl; rfl); ((conv=>whnf);repeat((first|refine Ct ‹_› ?_|refine Cf ‹_› ?_|refine Ct rfl ?_|refine Cf rfl ?_|refine Bi rfl ?_|refine Bz rfl ?_|refine Lr ?_);conv=>whnf))
  refine Bnd_i (by omega) ?_
  ((conv=>whnf);repeat((first|refine Ct ‹_› ?_|refine Cf ‹_› ?_|refine Ct rfl ?_|refine Cf rfl ?_|refine Bi rfl ?_|refine Bz rfl ?_|refine Lr ?_);conv=>whnf))
  refine Rw_i (rwIn b.m.ter.length (List.replicate b.m.ter.length 0)) (rwIn_zero _) ?_
  ((conv=>whnf);repeat((first|refine Ct ‹_› ?_|refine Cf ‹_› ?_|refine Ct rfl ?_|refine Cf rfl ?_|refine Bi rfl ?_|refine Bz rfl ?_|refine Lr ?_);conv=>whnf))
  refine WLoop_v2 ⟨[1, 2, 3, 4, 5, 6, 13, 25, 26], [6], []⟩ (fun (t : Int) (L : List Int) => hdS 102 [(1, .v (vI k)), (2, .v (vI w)), (3, .v (vI i)), (4, .v (vB bk)), (5, .v (.one (roI av))), (6, .v (.one (.box 6 0))), (13, .v (.one (.own (vkey 13) b.m.ter.length))), (25, .v (vI b.m.ter.length)), (26, .v (vI t))] [(6, b.cs)] [(vkey 13, rwIn b.m.ter.length L)])
    (fun n t L => 0 ≤ t ∧ t + n = b.m.ter.length ∧ L.length = b.m.ter.length ∧ ∀ j : Nat, (j : Int) < t → L.getD j 0 = -1) b.m.ter.length 0 (List.replicate b.m.ter.length 0) rfl ⟨by omega, by omega, by simp, fun j hj => by omega⟩ ?_
  rintro n t L ⟨h1, h2, hlen, h3⟩
  ((conv=>whnf);repeat((first|refine Ct ‹_› ?_|refine Cf ‹_› ?_|refine Ct rfl ?_|refine Cf rfl ?_|refine Bi rfl ?_|refine Bz rfl ?_|refine Lr ?_);conv=>whnf))
  refine Cnd_i (fun g => ?_) (fun g => ?_)
  · have ht := of_decide_eq_true g
    ((conv=>whnf);repeat((first|refine Ct ‹_› ?_|refine Cf ‹_› ?_|refine Ct rfl ?_|refine Cf rfl ?_|refine Bi rfl ?_|refine Bz rfl ?_|refine Lr ?_);conv=>whnf))
    refine Bnd_i (⟨h1, ht⟩) ?_; ((conv=>whnf);repeat((first|refine Ct ‹_› ?_|refine Cf ‹_› ?_|refine Ct rfl ?_|refine Cf rfl ?_|refine Bi rfl ?_|refine Bz rfl ?_|refine Lr ?_);conv=>whnf))
    refine Rw_i (rwIn b.m.ter.length (L.set t.toNat (-1))) (rwIn_set _ _ _ _ (by omega)) ?_
    ((conv=>whnf);repeat((first|refine Ct ‹_› ?_|refine Cf ‹_› ?_|refine Ct rfl ?_|refine Cf rfl ?_|refine Bi rfl ?_|refine Bz rfl ?_|refine Lr ?_);conv=>whnf))
    refine ⟨n - 1, t + 1, L.set t.toNat (-1), ?_, by omega, by omega, by omega, by simp [hlen], fun j hj => ?_⟩
    · rw [wrapI (by omega)]; rfl
    · rw [getD_set _ _ _ _ (by omega)]
      split
      · rfl
      · exact h3 j (by omega)
  have ht := of_decide_eq_false g
  have hL := all_neg1 hlen (fun j hj => h3 j (by omega))
  subst hL
  clear h1 h2 h3 hlen g ht
  ((conv=>whnf);repeat((first|refine Ct ‹_› ?_|refine Cf ‹_› ?_|refine Ct rfl ?_|refine Cf rfl ?_|refine Bi rfl ?_|refine Bz rfl ?_|refine Lr ?_);conv=>whnf))
  refine Bnd_i (⟨i0.1, i0.2⟩) ?_; ((conv=>whnf);repeat((first|refine Ct ‹_› ?_|refine Cf ‹_› ?_|refine Ct rfl ?_|refine Cf rfl ?_|refine Bi rfl ?_|refine Bz rfl ?_|refine Lr ?_);conv=>whnf))
  refine Rw_i (rwIn b.m.ter.length ((List.replicate b.m.ter.length (-1)).set i.toNat 0)) (rwIn_set _ _ _ _ (by simp; omega)) ?_
  ((conv=>whnf);repeat((first|refine Ct ‹_› ?_|refine Cf ‹_› ?_|refine Ct rfl ?_|refine Cf rfl ?_|refine Bi rfl ?_|refine Bz rfl ?_|refine Lr ?_);conv=>whnf))
  have hin : Rlx b.m.ter.length sumF (bEg b k w av bk) 0 20 i ((List.replicate b.m.ter.length (-1)).set i.toNat 0) := Rlx.init (by omega) (Int.le_refl 0) i0
  refine WLoop_v2 ⟨[1, 2, 4, 5, 6, 13, 15], [6], []⟩ (fun (c : Bool) (L : List Int) => hdS 102 [(1, .v (vI k)), (2, .v (vI w)), (4, .v (vB bk)), (5, .v (.one (roI av))), (6, .v (.one (.box 6 0))), (13, .v (.one (.own (vkey 13) b.m.ter.length))), (15, .v (vB c))] [(6, b.cs)] [(vkey 13, rwIn b.m.ter.length L)])
    (fun n c L => n = 2 * mu 4000 L + (if c = true then 1 else 0) ∧ Rlx b.m.ter.length sumF (bEg b k w av bk) 0 20 i L ∧ (c = false → DstB b k w i av bk L)) _ true _ rfl ⟨rfl, hin, fun h => by cases h⟩ ?_
  rintro n0 c0 L0 ⟨hn0, hr0, hd0⟩
  ((conv=>whnf);repeat((first|refine Ct ‹_› ?_|refine Cf ‹_› ?_|refine Ct rfl ?_|refine Cf rfl ?_|refine Bi rfl ?_|refine Bz rfl ?_|refine Lr ?_);conv=>whnf))
  refine Cnd_i (fun g => ?_) (fun g => ?_)
  rotate_left
  · have hd := hd0 g
    ((conv=>whnf);repeat((first|refine Ct ‹_› ?_|refine Cf ‹_› ?_|refine Ct rfl ?_|refine Cf rfl ?_|refine Bi rfl ?_|refine Bz rfl ?_|refine Lr ?_);conv=>whnf))
    have e1 : dL b k w i av bk = L0 := hd.eq.symm
    rw [e1, rwIn_eq hd.len, hd.len]
    exact ⟨rfl, rfl, rfl⟩
  subst g
  ((conv=>whnf);repeat((first|refine Ct ‹_› ?_|refine Cf ‹_› ?_|refine Ct rfl ?_|refine Cf rfl ?_|refine Bi rfl ?_|refine Bz rfl ?_|refine Lr ?_);conv=>whnf))
  refine WLoop_v3 ⟨[1, 2, 4, 5, 6, 13, 15, 38, 39], [6], []⟩ (fun (x : Int) (c : Bool) (L : List Int) => hdS 102 [(1, .v (vI k)), (2, .v (vI w)), (4, .v (vB bk)), (5, .v (.one (roI av))), (6, .v (.one (.box 6 0))), (13, .v (.one (.own (vkey 13) b.m.ter.length))), (15, .v (vB c)), (38, .v (vI b.m.ter.length)), (39, .v (vI x))] [(6, b.cs)] [(vkey 13, rwIn b.m.ter.length L)])
    (fun n x c L => 0 ≤ x ∧ x + n = b.m.ter.length ∧ Swp b.m.ter.length sumF (bCo b k w) (nx b.m) (avP av) bk 0 20 i 4000 L0 x 0 L c) b.m.ter.length 0 false L0 rfl ⟨by omega, by omega, Swp.init hr0⟩ ?_
  rintro m x c L ⟨x1, x2, hsw⟩
  ((conv=>whnf);repeat((first|refine Ct ‹_› ?_|refine Cf ‹_› ?_|refine Ct rfl ?_|refine Cf rfl ?_|refine Bi rfl ?_|refine Bz rfl ?_|refine Lr ?_);conv=>whnf))
  refine Cnd_i (fun g => ?_) (fun g => ?_)
  rotate_left
  · have hx := of_decide_eq_false g
    ((conv=>whnf);repeat((first|refine Ct ‹_› ?_|refine Cf ‹_› ?_|refine Ct rfl ?_|refine Cf rfl ?_|refine Bi rfl ?_|refine Bz rfl ?_|refine Lr ?_);conv=>whnf))
    cases c with
    | true =>
      have := hsw.lt rfl
      refine ⟨2 * mu 4000 L + 1, true, L, rfl, by rw [hn0, if_pos rfl]; omega, rfl, hsw.r, fun h => by cases h⟩
    | false =>
      obtain ⟨e1, _⟩ := hsw.eq rfl
      refine ⟨2 * mu 4000 L, false, L, rfl, by rw [hn0, if_pos rfl, e1]; omega, rfl, hsw.r, fun _ => hsw.fin (by omega) he (Int.le_refl 0) i0⟩
  have hx := of_decide_eq_true g
  ((conv=>whnf);repeat((first|refine Ct ‹_› ?_|refine Cf ‹_› ?_|refine Ct rfl ?_|refine Cf rfl ?_|refine Bi rfl ?_|refine Bz rfl ?_|refine Lr ?_);conv=>whnf))
  refine WLoop_v3 ⟨[1, 2, 4, 5, 6, 13, 15, 16, 38, 39, 42], [6], []⟩ (fun (d : Int) (c : Bool) (L : List Int) => hdS 102 [(1, .v (vI k)), (2, .v (vI w)), (4, .v (vB bk)), (5, .v (.one (roI av))), (6, .v (.one (.box 6 0))), (13, .v (.one (.own (vkey 13) b.m.ter.length))), (15, .v (vB c)), (16, .v (vI x)), (38, .v (vI b.m.ter.length)), (39, .v (vI x)), (42, .v (vI d))] [(6, b.cs)] [(vkey 13, rwIn b.m.ter.length L)])
    (fun n d c L => 0 ≤ d ∧ d + n = 6 ∧ Swp b.m.ter.length sumF (bCo b k w) (nx b.m) (avP av) bk 0 20 i 4000 L0 x d L c) 6 0 c L rfl ⟨by omega, by omega, hsw⟩ ?_
  clear hsw
  rintro n d c L ⟨h1, h2, hsw⟩
  have hlen := hsw.r.len
  ((conv=>whnf);repeat((first|refine Ct ‹_› ?_|refine Cf ‹_› ?_|refine Ct rfl ?_|refine Cf rfl ?_|refine Bi rfl ?_|refine Bz rfl ?_|refine Lr ?_);conv=>whnf))
  refine Cnd_i (fun g => ?_) (fun g => ?_)
  rotate_left
  · have hd := of_decide_eq_false g
    ((conv=>whnf);repeat((first|refine Ct ‹_› ?_|refine Cf ‹_› ?_|refine Ct rfl ?_|refine Cf rfl ?_|refine Bi rfl ?_|refine Bz rfl ?_|refine Lr ?_);conv=>whnf))
    obtain rfl : d = 6 := by omega
    refine ⟨m - 1, x + 1, c, L, ?_, by omega, by omega, by omega, hsw.nxt⟩
    rw [wrapI (by omega)]; rfl
  have hd := of_decide_eq_true g
  have hx : 0 ≤ x ∧ x < b.m.ter.length := ⟨x1, hx⟩
  have hsb := stepC_b h (i := x) (d := d) k0 w0
  ((conv=>whnf);repeat((first|refine Ct ‹_› ?_|refine Cf ‹_› ?_|refine Ct rfl ?_|refine Cf rfl ?_|refine Bi rfl ?_|refine Bz rfl ?_|refine Lr ?_);conv=>whnf))
  (refine CallQ_some (F_stepCost b h k x d w k0.1 k0.2 hx.1 hx.2 h1 (by omega) w0.1 w0.2) ?_ ?_ ?_; rfl; rfl); ((conv=>whnf);repeat((first|refine Ct ‹_› ?_|refine Cf ‹_› ?_|refine Ct rfl ?_|refine Cf rfl ?_|refine Bi rfl ?_|refine Bz rfl ?_|refine Lr ?_);conv=>whnf))
  refine Cnd_i (fun g2 => ?_) (fun g2 => ?_)
  · have e2 : stepC b k x d w = 0 := by simpa using g2
    ((conv=>whnf);repeat((first|refine Ct ‹_› ?_|refine Cf ‹_› ?_|refine Ct rfl ?_|refine Cf rfl ?_|refine Bi rfl ?_|refine Bz rfl ?_|refine Lr ?_);conv=>whnf))
    refine ⟨n - 1, d + 1, c, L, ?_, by omega, by omega, by omega, hsw.skip (.inl e2)⟩
    rw [wrapI (by omega)]; rfl
  have e2 : stepC b k x d w ≠ 0 := by simpa using g2
  have hnx := hsb.2.2 e2
  ((conv=>whnf);repeat((first|refine Ct ‹_› ?_|refine Cf ‹_› ?_|refine Ct rfl ?_|refine Cf rfl ?_|refine Bi rfl ?_|refine Bz rfl ?_|refine Lr ?_);conv=>whnf))
  (refine CallQ_some (F_nextTo b.m h.wh x d hx.1 (by omega) h1 (by omega)) ?_ ?_ ?_; rfl; rfl); ((conv=>whnf);repeat((first|refine Ct ‹_› ?_|refine Cf ‹_› ?_|refine Ct rfl ?_|refine Cf rfl ?_|refine Bi rfl ?_|refine Bz rfl ?_|refine Lr ?_);conv=>whnf))
  (refine CallQ_some (F_Contains av (nx b.m x d) hav) ?_ ?_ ?_; rfl; rfl); ((conv=>whnf);repeat((first|refine Ct ‹_› ?_|refine Cf ‹_› ?_|refine Ct rfl ?_|refine Cf rfl ?_|refine Bi rfl ?_|refine Bz rfl ?_|refine Lr ?_);conv=>whnf))
  refine Cnd_i (fun g3 => ?_) (fun g3 => ?_)
  · ((conv=>whnf);repeat((first|refine Ct ‹_› ?_|refine Cf ‹_› ?_|refine Ct rfl ?_|refine Cf rfl ?_|refine Bi rfl ?_|refine Bz rfl ?_|refine Lr ?_);conv=>whnf))
    refine ⟨n - 1, d + 1, c, L, ?_, by omega, by omega, by omega, hsw.skip ((.inr (by rw [avP, g3]; rfl)))⟩
    rw [wrapI (by omega)]; rfl
  have e3 : avP av (nx b.m x d) (bCo b k w x d) = true := by rw [avP, g3]; rfl
  have bd1 := hsw.r.bound (by omega) x.toNat (by omega)
  have bd2 := hsw.r.bound (by omega) (nx b.m x d).toNat (by omega)
  have lw1 := hsw.r.low x.toNat (by omega)
  have lw2 := hsw.r.low (nx b.m x d).toNat (by omega)
  ((conv=>whnf);repeat((first|refine Ct ‹_› ?_|refine Cf ‹_› ?_|refine Ct rfl ?_|refine Cf rfl ?_|refine Bi rfl ?_|refine Bz rfl ?_|refine Lr ?_);conv=>whnf))
  refine Cnd_i (fun g4 => ?_) (fun g4 => ?_)
  · subst g4
    have hj := hnx
    have hk := hx
    ((conv=>whnf);repeat((first|refine Ct ‹_› ?_|refine Cf ‹_› ?_|refine Ct rfl ?_|refine Cf rfl ?_|refine Bi rfl ?_|refine Bz rfl ?_|refine Lr ?_);conv=>whnf))
    refine Bnd_i (⟨hj.1, hj.2⟩) ?_; ((conv=>whnf);repeat((first|refine Ct ‹_› ?_|refine Cf ‹_› ?_|refine Ct rfl ?_|refine Cf rfl ?_|refine Bi rfl ?_|refine Bz rfl ?_|refine Lr ?_);conv=>whnf))
    refine Cnd_i (fun g5 => ?_) (fun g5 => ?_)
    · have d5 := of_decide_eq_true g5
      ((conv=>whnf);repeat((first|refine Ct ‹_› ?_|refine Cf ‹_› ?_|refine Ct rfl ?_|refine Cf rfl ?_|refine Bi rfl ?_|refine Bz rfl ?_|refine Lr ?_);conv=>whnf))
      refine Bnd_i (⟨hk.1, hk.2⟩) ?_; ((conv=>whnf);repeat((first|refine Ct ‹_› ?_|refine Cf ‹_› ?_|refine Ct rfl ?_|refine Cf rfl ?_|refine Bi rfl ?_|refine Bz rfl ?_|refine Lr ?_);conv=>whnf))
      refine Cnd_i (fun g6 => ?_) (fun g6 => ?_)
      · have d6 := of_decide_eq_true g6
        ((conv=>whnf);repeat((first|refine Ct ‹_› ?_|refine Cf ‹_› ?_|refine Ct rfl ?_|refine Cf rfl ?_|refine Bi rfl ?_|refine Bz rfl ?_|refine Lr ?_);conv=>whnf))
        refine Bnd_i (⟨hj.1, hj.2⟩) ?_; ((conv=>whnf);repeat((first|refine Ct ‹_› ?_|refine Cf ‹_› ?_|refine Ct rfl ?_|refine Cf rfl ?_|refine Bi rfl ?_|refine Bz rfl ?_|refine Lr ?_);conv=>whnf))
        refine Bnd_i (⟨hk.1, hk.2⟩) ?_; ((conv=>whnf);repeat((first|refine Ct ‹_› ?_|refine Cf ‹_› ?_|refine Ct rfl ?_|refine Cf rfl ?_|refine Bi rfl ?_|refine Bz rfl ?_|refine Lr ?_);conv=>whnf))
        refine Rw_i (rwIn b.m.ter.length (L.set (x).toNat (L.getD (nx b.m x d).toNat 0 + stepC b k x d w))) (by rw [wrapI (by omega)]; exact rwIn_set _ _ _ _ (by rw [hlen]; omega)) ?_
        ((conv=>whnf);repeat((first|refine Ct ‹_› ?_|refine Cf ‹_› ?_|refine Ct rfl ?_|refine Cf rfl ?_|refine Bi rfl ?_|refine Bz rfl ?_|refine Lr ?_);conv=>whnf))
        have hsy := hsw.yes (j := nx b.m x d) (k := x) he (Int.le_refl 0) i0 hM hx ⟨h1, by omega⟩ e2 e3 rfl rfl d5 (.inl d6)
        refine ⟨n - 1, d + 1, true, L.set (x).toNat (L.getD (nx b.m x d).toNat 0 + stepC b k x d w), ?_, by omega, by omega, by omega, hsy⟩
        rw [wrapI (by omega)]; rfl
      · have d6 := of_decide_eq_false g6
        ((conv=>whnf);repeat((first|refine Ct ‹_› ?_|refine Cf ‹_› ?_|refine Ct rfl ?_|refine Cf rfl ?_|refine Bi rfl ?_|refine Bz rfl ?_|refine Lr ?_);conv=>whnf))
        refine Bnd_i (⟨hj.1, hj.2⟩) ?_; ((conv=>whnf);repeat((first|refine Ct ‹_› ?_|refine Cf ‹_› ?_|refine Ct rfl ?_|refine Cf rfl ?_|refine Bi rfl ?_|refine Bz rfl ?_|refine Lr ?_);conv=>whnf))
        refine Bnd_i (⟨hk.1, hk.2⟩) ?_; ((conv=>whnf);repeat((first|refine Ct ‹_› ?_|refine Cf ‹_› ?_|refine Ct rfl ?_|refine Cf rfl ?_|refine Bi rfl ?_|refine Bz rfl ?_|refine Lr ?_);conv=>whnf))
        refine Cnd_e (c' := decide (L.getD (nx b.m x d).toNat 0 + stepC b k x d w < L.getD (x).toNat 0)) (by rw [wrapI (by omega)]) ?_
        refine Cnd_i (fun g7 => ?_) (fun g7 => ?_)
        · have d7 := of_decide_eq_true g7
          ((conv=>whnf);repeat((first|refine Ct ‹_› ?_|refine Cf ‹_› ?_|refine Ct rfl ?_|refine Cf rfl ?_|refine Bi rfl ?_|refine Bz rfl ?_|refine Lr ?_);conv=>whnf))
          refine Bnd_i (⟨hj.1, hj.2⟩) ?_; ((conv=>whnf);repeat((first|refine Ct ‹_› ?_|refine Cf ‹_› ?_|refine Ct rfl ?_|refine Cf rfl ?_|refine Bi rfl ?_|refine Bz rfl ?_|refine Lr ?_);conv=>whnf))
          refine Bnd_i (⟨hk.1, hk.2⟩) ?_; ((conv=>whnf);repeat((first|refine Ct ‹_› ?_|refine Cf ‹_› ?_|refine Ct rfl ?_|refine Cf rfl ?_|refine Bi rfl ?_|refine Bz rfl ?_|refine Lr ?_);conv=>whnf))
          refine Rw_i (rwIn b.m.ter.length (L.set (x).toNat (L.getD (nx b.m x d).toNat 0 + stepC b k x d w))) (by rw [wrapI (by omega)]; exact rwIn_set _ _ _ _ (by rw [hlen]; omega)) ?_
          ((conv=>whnf);repeat((first|refine Ct ‹_› ?_|refine Cf ‹_› ?_|refine Ct rfl ?_|refine Cf rfl ?_|refine Bi rfl ?_|refine Bz rfl ?_|refine Lr ?_);conv=>whnf))
          have hsy := hsw.yes (j := nx b.m x d) (k := x) he (Int.le_refl 0) i0 hM hx ⟨h1, by omega⟩ e2 e3 rfl rfl d5 (.inr d7)
          refine ⟨n - 1, d + 1, true, L.set (x).toNat (L.getD (nx b.m x d).toNat 0 + stepC b k x d w), ?_, by omega, by omega, by omega, hsy⟩
          rw [wrapI (by omega)]; rfl
        · have d7 := of_decide_eq_false g7
          ((conv=>whnf);repeat((first|refine Ct ‹_› ?_|refine Cf ‹_› ?_|refine Ct rfl ?_|refine Cf rfl ?_|refine Bi rfl ?_|refine Bz rfl ?_|refine Lr ?_);conv=>whnf))
          refine ⟨n - 1, d + 1, c, L, ?_, by omega, by omega, by omega, hsw.no (fun h0 => ?_)⟩
          · rw [wrapI (by omega)]; rfl
          · exact ⟨by show 0 ≤ L.getD (x).toNat 0; omega, by show L.getD (x).toNat 0 ≤ L.getD (nx b.m x d).toNat 0 + stepC b k x d w; omega⟩
    · have d5 := of_decide_eq_false g5
      ((conv=>whnf);repeat((first|refine Ct ‹_› ?_|refine Cf ‹_› ?_|refine Ct rfl ?_|refine Cf rfl ?_|refine Bi rfl ?_|refine Bz rfl ?_|refine Lr ?_);conv=>whnf))
      refine ⟨n - 1, d + 1, c, L, ?_, by omega, by omega, by omega, hsw.no (fun h0 => ?_)⟩
      · rw [wrapI (by omega)]; rfl
      · exact absurd h0 d5
  · subst g4
    have hj := hx
    have hk := hnx
    ((conv=>whnf);repeat((first|refine Ct ‹_› ?_|refine Cf ‹_› ?_|refine Ct rfl ?_|refine Cf rfl ?_|refine Bi rfl ?_|refine Bz rfl ?_|refine Lr ?_);conv=>whnf))
    refine Bnd_i (⟨hj.1, hj.2⟩) ?_; ((conv=>whnf);repeat((first|refine Ct ‹_› ?_|refine Cf ‹_› ?_|refine Ct rfl ?_|refine Cf rfl ?_|refine Bi rfl ?_|refine Bz rfl ?_|refine Lr ?_);conv=>whnf))
    refine Cnd_i (fun g5 => ?_) (fun g5 => ?_)
    · have d5 := of_decide_eq_true g5
      ((conv=>whnf);repeat((first|refine Ct ‹_› ?_|refine Cf ‹_› ?_|refine Ct rfl ?_|refine Cf rfl ?_|refine Bi rfl ?_|refine Bz rfl ?_|refine Lr ?_);conv=>whnf))
      refine Bnd_i (⟨hk.1, hk.2⟩) ?_; ((conv=>whnf);repeat((first|refine Ct ‹_› ?_|refine Cf ‹_› ?_|refine Ct rfl ?_|refine Cf rfl ?_|refine Bi rfl ?_|refine Bz rfl ?_|refine Lr ?_);conv=>whnf))
      refine Cnd_i (fun g6 => ?_) (fun g6 => ?_)
      · have d6 := of_decide_eq_true g6
        ((conv=>whnf);repeat((first|refine Ct ‹_› ?_|refine Cf ‹_› ?_|refine Ct rfl ?_|refine Cf rfl ?_|refine Bi rfl ?_|refine Bz rfl ?_|refine Lr ?_);conv=>whnf))
        refine Bnd_i (⟨hj.1, hj.2⟩) ?_; ((conv=>whnf);repeat((first|refine Ct ‹_› ?_|refine Cf ‹_› ?_|refine Ct rfl ?_|refine Cf rfl ?_|refine Bi rfl ?_|refine Bz rfl ?_|refine Lr ?_);conv=>whnf))
        refine Bnd_i (⟨hk.1, hk.2⟩) ?_; ((conv=>whnf);repeat((first|refine Ct ‹_› ?_|refine Cf ‹_› ?_|refine Ct rfl ?_|refine Cf rfl ?_|refine Bi rfl ?_|refine Bz rfl ?_|refine Lr ?_);conv=>whnf))
        refine Rw_i (rwIn b.m.ter.length (L.set (nx b.m x d).toNat (L.getD (x).toNat 0 + stepC b k x d w))) (by rw [wrapI (by omega)]; exact rwIn_set _ _ _ _ (by rw [hlen]; omega)) ?_
        ((conv=>whnf);repeat((first|refine Ct ‹_› ?_|refine Cf ‹_› ?_|refine Ct rfl ?_|refine Cf rfl ?_|refine Bi rfl ?_|refine Bz rfl ?_|refine Lr ?_);conv=>whnf))
        have hsy := hsw.yes (j := x) (k := nx b.m x d) he (Int.le_refl 0) i0 hM hx ⟨h1, by omega⟩ e2 e3 rfl rfl d5 (.inl d6)
        refine ⟨n - 1, d + 1, true, L.set (nx b.m x d).toNat (L.getD (x).toNat 0 + stepC b k x d w), ?_, by omega, by omega, by omega, hsy⟩
        rw [wrapI (by omega)]; rfl
      · have d6 := of_decide_eq_false g6
        ((conv=>whnf);repeat((first|refine Ct ‹_› ?_|refine Cf ‹_› ?_|refine Ct rfl ?_|refine Cf rfl ?_|refine Bi rfl ?_|refine Bz rfl ?_|refine Lr ?_);conv=>whnf))
        refine Bnd_i (⟨hj.1, hj.2⟩) ?_; ((conv=>whnf);repeat((first|refine Ct ‹_› ?_|refine Cf ‹_› ?_|refine Ct rfl ?_|refine Cf rfl ?_|refine Bi rfl ?_|refine Bz rfl ?_|refine Lr ?_);conv=>whnf))
        refine Bnd_i (⟨hk.1, hk.2⟩) ?_; ((conv=>whnf);repeat((first|refine Ct ‹_› ?_|refine Cf ‹_› ?_|refine Ct rfl ?_|refine Cf rfl ?_|refine Bi rfl ?_|refine Bz rfl ?_|refine Lr ?_);conv=>whnf))
        refine Cnd_e (c' := decide (L.getD (x).toNat 0 + stepC b k x d w < L.getD (nx b.m x d).toNat 0)) (by rw [wrapI (by omega)]) ?_
        refine Cnd_i (fun g7 => ?_) (fun g7 => ?_)
        · have d7 := of_decide_eq_true g7
          ((conv=>whnf);repeat((first|refine Ct ‹_› ?_|refine Cf ‹_› ?_|refine Ct rfl ?_|refine Cf rfl ?_|refine Bi rfl ?_|refine Bz rfl ?_|refine Lr ?_);conv=>whnf))
          refine Bnd_i (⟨hj.1, hj.2⟩) ?_; ((conv=>whnf);repeat((first|refine Ct ‹_› ?_|refine Cf ‹_› ?_|refine Ct rfl ?_|refine Cf rfl ?_|refine Bi rfl ?_|refine Bz rfl ?_|refine Lr ?_);conv=>whnf))
          refine Bnd_i (⟨hk.1, hk.2⟩) ?_; ((conv=>whnf);repeat((first|refine Ct ‹_› ?_|refine Cf ‹_› ?_|refine Ct rfl ?_|refine Cf rfl ?_|refine Bi rfl ?_|refine Bz rfl ?_|refine Lr ?_);conv=>whnf))
          refine Rw_i (rwIn b.m.ter.length (L.set (nx b.m x d).toNat (L.getD (x).toNat 0 + stepC b k x d w))) (by rw [wrapI (by omega)]; exact rwIn_set _ _ _ _ (by rw [hlen]; omega)) ?_
          ((conv=>whnf);repeat((first|refine Ct ‹_› ?_|refine Cf ‹_› ?_|refine Ct rfl ?_|refine Cf rfl ?_|refine Bi rfl ?_|refine Bz rfl ?_|refine Lr ?_);conv=>whnf))
          have hsy := hsw.yes (j := x) (k := nx b.m x d) he (Int.le_refl 0) i0 hM hx ⟨h1, by omega⟩ e2 e3 rfl rfl d5 (.inr d7)
          refine ⟨n - 1, d + 1, true, L.set (nx b.m x d).toNat (L.getD (x).toNat 0 + stepC b k x d w), ?_, by omega, by omega, by omega, hsy⟩
          rw [wrapI (by omega)]; rfl
        · have d7 := of_decide_eq_false g7
          ((conv=>whnf);repeat((first|refine Ct ‹_› ?_|refine Cf ‹_› ?_|refine Ct rfl ?_|refine Cf rfl ?_|refine Bi rfl ?_|refine Bz rfl ?_|refine Lr ?_);conv=>whnf))
          refine ⟨n - 1, d + 1, c, L, ?_, by omega, by omega, by omega, hsw.no (fun h0 => ?_)⟩
          · rw [wrapI (by omega)]; rfl
          · exact ⟨by show 0 ≤ L.getD (nx b.m x d).toNat 0; omega, by show L.getD (nx b.m x d).toNat 0 ≤ L.getD (x).toNat 0 + stepC b k x d w; omega⟩
    · have d5 := of_decide_eq_false g5
      ((conv=>whnf);repeat((first|refine Ct ‹_› ?_|refine Cf ‹_› ?_|refine Ct rfl ?_|refine Cf rfl ?_|refine Bi rfl ?_|refine Bz rfl ?_|refine Lr ?_);conv=>whnf))
      refine ⟨n - 1, d + 1, c, L, ?_, by omega, by omega, by omega, hsw.no (fun h0 => ?_)⟩
      · rw [wrapI (by omega)]; rfl
      · exact absurd h0 d5

theorem F_mSizeB (b : Brd) (h : GB b) : Fun E0 33 [.agg b.m.cs] [] (.v (vI b.m.ter.length)) [] [] := by
  rw [h.n]; exact F_mSize b.m h.wh

theorem F_pFrom (b : Brd) (h : GB b) (k w i : Int) (av : List Int) (k0 : 0 ≤ k ∧ k < b.r.knd.length) (w0 : 0 ≤ w ∧ w ≤ 2) (i0 : 0 ≤ i ∧ i < b.m.ter.length) (hav : av.length ≤ maxLen) :
    Fun E0 16 [.agg b.cs, vI k, vI w, vI i, .one (roI av)] [] (.v (.one (.own 0 (dL b k w i av false).length))) [(0, rwI (dL b k w i av false))] [] := by
  have hm := h.wh.mul
  have hn := h.n
  have he := eok_s h k0 w0 av false
  refine Fun_of_xc k16 rfl rfl (nrC (rwI_no _) nrN) ?_
  ((conv=>whnf);repeat((first|refine Ct ‹_› ?_|refine Cf ‹_› ?_|refine Ct rfl ?_|refine Cf rfl ?_|refine Bi rfl ?_|refine Bz rfl ?_|refine Lr ?_);conv=>whnf))
  refine Rw_i (rwI []) (rwI_nil _) ?_
  ((conv=>whnf);repeat((first|refine Ct ‹_› ?_|refine Cf ‹_› ?_|refine Ct rfl ?_|refine Cf rfl ?_|refine Bi rfl ?_|refine Bz rfl ?_|refine Lr ?_);conv=>whnf))
  (refine CallQ_some (F_mSizeB b h) ?_ ?_ ?_; rfl; rfl); ((conv=>whnf);repeat((first|refine Ct ‹_› ?_|refine Cf ‹_› ?_|refine Ct rfl ?_|refine Cf rfl ?_|refine Bi rfl ?_|refine Bz rfl ?_|refine Lr ?_);conv=>whnf))
  refine Bnd_i (by omega) ?_
  ((conv=>whnf);repeat((first|refine Ct ‹_› ?_|refine Cf ‹_› ?_|refine Ct rfl ?_|refine Cf rfl ?_|refine Bi rfl ?_|refine Bz rfl ?_|refine Lr ?_);conv=>whnf))
  refine Rw_i (rwIn b.m.ter.length (List.replicate b.m.ter.length 0)) (rwIn_zero _) ?_
  ((conv=>whnf);repeat((first|refine Ct ‹_› ?_|refine Cf ‹_› ?_|refine Ct rfl ?_|refine Cf rfl ?_|refine Bi rfl ?_|refine Bz rfl ?_|refine Lr ?_);conv=>whnf))
  refine Bnd_i (by have : (rwIn b.m.ter.length (List.replicate b.m.ter.length 0)).n = b.m.ter.length := rfl; omega) ?_
  ((conv=>whnf);repeat((first|refine Ct ‹_› ?_|refine Cf ‹_› ?_|refine Ct rfl ?_|refine Cf rfl ?_|refine Bi rfl ?_|refine Bz rfl ?_|refine Lr ?_);conv=>whnf))
  refine Rw_i (rwBn b.m.ter.length (List.replicate b.m.ter.length false)) (rwBn_zero _) ?_
  ((conv=>whnf);repeat((first|refine Ct ‹_› ?_|refine Cf ‹_› ?_|refine Ct rfl ?_|refine Cf rfl ?_|refine Bi rfl ?_|refine Bz rfl ?_|refine Lr ?_);conv=>whnf))
  refine WLoop_v2 ⟨[1, 2, 3, 4, 5, 11, 12, 29, 30], [5], []⟩ (fun (t : Int) (L : List Int) => hdS 122 [(1, .v (vI k)), (2, .v (vI w)), (3, .v (vI i)), (4, .v (.one (roI av))), (5, .v (.one (.box 5 0))), (11, .v (.one (.own (vkey 11) b.m.ter.length))), (12, .v (.one (.own (vkey 12) b.m.ter.length))), (29, .v (vI b.m.ter.length)), (30, .v (vI t))] [(5, b.cs)] [(vkey 11, rwIn b.m.ter.length L), (vkey 12, rwBn b.m.ter.length (List.replicate b.m.ter.length false))])
    (fun n t L => 0 ≤ t ∧ t + n = b.m.ter.length ∧ L.length = b.m.ter.length ∧ ∀ j : Nat, (j : Int) < t → L.getD j 0 = -1) b.m.ter.length 0 (List.replicate b.m.ter.length 0) rfl ⟨by omega, by omega, by simp, fun j hj => by omega⟩ ?_
  rintro n t L ⟨h1, h2, hlen, h3⟩
  ((conv=>whnf);repeat((first|refine Ct ‹_› ?_|refine Cf ‹_› ?_|refine Ct rfl ?_|refine Cf rfl ?_|refine Bi rfl ?_|refine Bz rfl ?_|refine Lr ?_);conv=>whnf))
  refine Cnd_i (fun g => ?_) (fun g => ?_)
  · have ht := of_decide_eq_true g
    ((conv=>whnf);repeat((first|refine Ct ‹_› ?_|refine Cf ‹_› ?_|refine Ct rfl ?_|refine Cf rfl ?_|refine Bi rfl ?_|refine Bz rfl ?_|refine Lr ?_);conv=>whnf))
    refine Bnd_i (⟨h1, ht⟩) ?_; ((conv=>whnf);repeat((first|refine Ct ‹_› ?_|refine Cf ‹_› ?_|refine Ct rfl ?_|refine Cf rfl ?_|refine Bi rfl ?_|refine Bz rfl ?_|refine Lr ?_);conv=>whnf))
    refine Rw_i (rwIn b.m.ter.length (L.set t.toNat (-1))) (rwIn_set _ _ _ _ (by omega)) ?_
    ((conv=>whnf);repeat((first|refine Ct ‹_› ?_|refine Cf ‹_› ?_|refine Ct rfl ?_|refine Cf rfl ?_|refine Bi rfl ?_|refine Bz rfl ?_|refine Lr ?_);conv=>whnf))
    refine ⟨n - 1, t + 1, L.set t.toNat (-1), ?_, by omega, by omega, by omega, by simp [hlen], fun j hj => ?_⟩
    · rw [wrapI (by omega)]; rfl
    · rw [getD_set _ _ _ _ (by omega)]
      split
      · rfl
      · exact h3 j (by omega)
  have ht := of_decide_eq_false g
  have hL := all_neg1 hlen (fun j hj => h3 j (by omega))
  subst hL
  clear h1 h2 h3 hlen g ht
  ((conv=>whnf);repeat((first|refine Ct ‹_› ?_|refine Cf ‹_› ?_|refine Ct rfl ?_|refine Cf rfl ?_|refine Bi rfl ?_|refine Bz rfl ?_|refine Lr ?_);conv=>whnf))
  refine Bnd_i (⟨i0.1, i0.2⟩) ?_; ((conv=>whnf);repeat((first|refine Ct ‹_› ?_|refine Cf ‹_› ?_|refine Ct rfl ?_|refine Cf rfl ?_|refine Bi rfl ?_|refine Bz rfl ?_|refine Lr ?_);conv=>whnf))
  refine Rw_i (rwIn b.m.ter.length ((List.replicate b.m.ter.length (-1)).set i.toNat 0)) (rwIn_set _ _ _ _ (by simp; omega)) ?_
  ((conv=>whnf);repeat((first|refine Ct ‹_› ?_|refine Cf ‹_› ?_|refine Ct rfl ?_|refine Cf rfl ?_|refine Bi rfl ?_|refine Bz rfl ?_|refine Lr ?_);conv=>whnf))
  have hin : Rlx b.m.ter.length sumF (bEg b k w av false) 0 20 i ((List.replicate b.m.ter.length (-1)).set i.toNat 0) := Rlx.init (by omega) (Int.le_refl 0) i0
  refine WLoop_v2 ⟨[1, 2, 4, 5, 11, 12], [5], []⟩ (fun (L : List Int) (D : List Bool) => hdS 122 [(1, .v (vI k)), (2, .v (vI w)), (4, .v (.one (roI av))), (5, .v (.one (.box 5 0))), (11, .v (.one (.own (vkey 11) b.m.ter.length))), (12, .v (.one (.own (vkey 12) b.m.ter.length)))] [(5, b.cs)] [(vkey 11, rwIn b.m.ter.length L), (vkey 12, rwBn b.m.ter.length D)])
    (fun n L D => n = cntF D ∧ Djk b.m.ter.length sumF (bCo b k w) (nx b.m) (avP av) 0 20 i L D) _ _ _ rfl ⟨rfl, Djk.init hin⟩ ?_
  clear hin
  rintro n0 L0 D0 ⟨hn0, hdj⟩
  have hlen := hdj.r.len
  have hlD := hdj.len
  ((conv=>whnf);repeat((first|refine Ct ‹_› ?_|refine Cf ‹_› ?_|refine Ct rfl ?_|refine Cf rfl ?_|refine Bi rfl ?_|refine Bz rfl ?_|refine Lr ?_);conv=>whnf))
  refine WLoop_v2 ⟨[1, 2, 4, 5, 11, 12, 14, 41, 42], [5], [(40, 11)]⟩ (fun (y t : Int) => hdS 122 [(1, .v (vI k)), (2, .v (vI w)), (4, .v (.one (roI av))), (5, .v (.one (.box 5 0))), (11, .v (.one (.own (vkey 11) b.m.ter.length))), (12, .v (.one (.own (vkey 12) b.m.ter.length))), (14, .v (vI y)), (40, .v (.one (.own (vkey 11) b.m.ter.length))), (41, .v (vI b.m.ter.length)), (42, .v (vI t))] [(5, b.cs)] [(vkey 11, rwIn b.m.ter.length L0), (vkey 12, rwBn b.m.ter.length D0)])
    (fun n y t => 0 ≤ t ∧ t + n = b.m.ter.length ∧ bestI L0 D0 y t) b.m.ter.length (-1) 0 rfl ⟨by omega, by omega, .inl ⟨rfl, fun j hj => by omega⟩⟩ ?_
  rintro n y t ⟨h1, h2, h3⟩
  ((conv=>whnf);repeat((first|refine Ct ‹_› ?_|refine Cf ‹_› ?_|refine Ct rfl ?_|refine Cf rfl ?_|refine Bi rfl ?_|refine Bz rfl ?_|refine Lr ?_);conv=>whnf))
  refine Cnd_i (fun g => ?_) (fun g => ?_)
  · have ht := of_decide_eq_true g
    have hy := h3.b
    ((conv=>whnf);repeat((first|refine Ct ‹_› ?_|refine Cf ‹_› ?_|refine Ct rfl ?_|refine Cf rfl ?_|refine Bi rfl ?_|refine Bz rfl ?_|refine Lr ?_);conv=>whnf))
    refine Bnd_i (⟨h1, ht⟩) ?_; ((conv=>whnf);repeat((first|refine Ct ‹_› ?_|refine Cf ‹_› ?_|refine Ct rfl ?_|refine Cf rfl ?_|refine Bi rfl ?_|refine Bz rfl ?_|refine Lr ?_);conv=>whnf))
    refine Cnd_i (fun g2 => ?_) (fun g2 => ?_)
    · have d2 := of_decide_eq_true g2
      ((conv=>whnf);repeat((first|refine Ct ‹_› ?_|refine Cf ‹_› ?_|refine Ct rfl ?_|refine Cf rfl ?_|refine Bi rfl ?_|refine Bz rfl ?_|refine Lr ?_);conv=>whnf))
      refine Bnd_i (⟨h1, ht⟩) ?_; ((conv=>whnf);repeat((first|refine Ct ‹_› ?_|refine Cf ‹_› ?_|refine Ct rfl ?_|refine Cf rfl ?_|refine Bi rfl ?_|refine Bz rfl ?_|refine Lr ?_);conv=>whnf))
      refine Cnd_i (fun g3 => ?_) (fun g3 => ?_)
      · have d3 : D0.getD t.toNat false = false := by simpa using g3
        ((conv=>whnf);repeat((first|refine Ct ‹_› ?_|refine Cf ‹_› ?_|refine Ct rfl ?_|refine Cf rfl ?_|refine Bi rfl ?_|refine Bz rfl ?_|refine Lr ?_);conv=>whnf))
        refine Cnd_i (fun g4 => ?_) (fun g4 => ?_)
        · have d4 := of_decide_eq_true g4
          ((conv=>whnf);repeat((first|refine Ct ‹_› ?_|refine Cf ‹_› ?_|refine Ct rfl ?_|refine Cf rfl ?_|refine Bi rfl ?_|refine Bz rfl ?_|refine Lr ?_);conv=>whnf))
          refine ⟨n - 1, t, t + 1, ?_, by omega, by omega, by omega, h3.take h1 d3 d2 (.inl d4)⟩
          rw [wrapI (by omega)]; rfl
        · have d4 := of_decide_eq_false g4
          ((conv=>whnf);repeat((first|refine Ct ‹_› ?_|refine Cf ‹_› ?_|refine Ct rfl ?_|refine Cf rfl ?_|refine Bi rfl ?_|refine Bz rfl ?_|refine Lr ?_);conv=>whnf))
          refine Bnd_i (⟨by omega, by omega⟩) ?_; ((conv=>whnf);repeat((first|refine Ct ‹_› ?_|refine Cf ‹_› ?_|refine Ct rfl ?_|refine Cf rfl ?_|refine Bi rfl ?_|refine Bz rfl ?_|refine Lr ?_);conv=>whnf))
          refine Cnd_i (fun g5 => ?_) (fun g5 => ?_)
          · have d5 := of_decide_eq_true g5
            ((conv=>whnf);repeat((first|refine Ct ‹_› ?_|refine Cf ‹_› ?_|refine Ct rfl ?_|refine Cf rfl ?_|refine Bi rfl ?_|refine Bz rfl ?_|refine Lr ?_);conv=>whnf))
            refine ⟨n - 1, t, t + 1, ?_, by omega, by omega, by omega, h3.take h1 d3 d2 (.inr d5)⟩
            rw [wrapI (by omega)]; rfl
          · have d5 := of_decide_eq_false g5
            ((conv=>whnf);repeat((first|refine Ct ‹_› ?_|refine Cf ‹_› ?_|refine Ct rfl ?_|refine Cf rfl ?_|refine Bi rfl ?_|refine Bz rfl ?_|refine Lr ?_);conv=>whnf))
            refine ⟨n - 1, y, t + 1, ?_, by omega, by omega, by omega, h3.keep (fun _ _ => ⟨by omega, by omega⟩)⟩
            rw [wrapI (by omega)]; rfl
      · have d3 : D0.getD t.toNat false = true := by simpa using g3
        ((conv=>whnf);repeat((first|refine Ct ‹_› ?_|refine Cf ‹_› ?_|refine Ct rfl ?_|refine Cf rfl ?_|refine Bi rfl ?_|refine Bz rfl ?_|refine Lr ?_);conv=>whnf))
        refine ⟨n - 1, y, t + 1, ?_, by omega, by omega, by omega, h3.keep (fun hh _ => by rw [d3] at hh; cases hh)⟩
        rw [wrapI (by omega)]; rfl
    · have d2 := of_decide_eq_false g2
      ((conv=>whnf);repeat((first|refine Ct ‹_› ?_|refine Cf ‹_› ?_|refine Ct rfl ?_|refine Cf rfl ?_|refine Bi rfl ?_|refine Bz rfl ?_|refine Lr ?_);conv=>whnf))
      refine ⟨n - 1, y, t + 1, ?_, by omega, by omega, by omega, h3.keep (fun _ hh => by omega)⟩
      rw [wrapI (by omega)]; rfl
  have ht := of_decide_eq_false g
  obtain rfl : t = b.m.ter.length := by omega
  ((conv=>whnf);repeat((first|refine Ct ‹_› ?_|refine Cf ‹_› ?_|refine Ct rfl ?_|refine Cf rfl ?_|refine Bi rfl ?_|refine Bz rfl ?_|refine Lr ?_);conv=>whnf))
  refine Cnd_i (fun g2 => ?_) (fun g2 => ?_)
  · have d2 := of_decide_eq_true g2
    ((conv=>whnf);repeat((first|refine Ct ‹_› ?_|refine Cf ‹_› ?_|refine Ct rfl ?_|refine Cf rfl ?_|refine Bi rfl ?_|refine Bz rfl ?_|refine Lr ?_);conv=>whnf))
    have hd : DstB b k w i av false L0 := hdj.fin he (Int.le_refl 0) i0 (fun j hj hD => by
      rcases h3 with h3 | h3
      · have := h3.2 j (by omega) hD; omega
      · omega)
    have e1 : dL b k w i av false = L0 := hd.eq.symm
    rw [e1, rwIn_eq hd.len, hd.len]
    exact ⟨rfl, rfl, rfl⟩
  have d2 := of_decide_eq_false g2
  rcases h3 with h3 | ⟨y1, y2, y3, y4⟩
  · omega
  have hdb := hdj.pick ⟨y1, y2⟩ y3 y4.1 (fun j hj hD hp => y4.2 j (by omega) hD hp)
  have hcnt := cntF_set D0 y.toNat (by omega) y3
  have hlD' : (D0.set y.toNat true).length = b.m.ter.length := by rw [List.length_set]; exact hlD
  ((conv=>whnf);repeat((first|refine Ct ‹_› ?_|refine Cf ‹_› ?_|refine Ct rfl ?_|refine Cf rfl ?_|refine Bi rfl ?_|refine Bz rfl ?_|refine Lr ?_);conv=>whnf))
  refine Bnd_i (⟨y1, y2⟩) ?_; ((conv=>whnf);repeat((first|refine Ct ‹_› ?_|refine Cf ‹_› ?_|refine Ct rfl ?_|refine Cf rfl ?_|refine Bi rfl ?_|refine Bz rfl ?_|refine Lr ?_);conv=>whnf))
  refine Rw_i (rwBn b.m.ter.length (D0.set y.toNat true)) (rwBn_set _ _ _ _ (by omega)) ?_
  ((conv=>whnf);repeat((first|refine Ct ‹_› ?_|refine Cf ‹_› ?_|refine Ct rfl ?_|refine Cf rfl ?_|refine Bi rfl ?_|refine Bz rfl ?_|refine Lr ?_);conv=>whnf))
  generalize D0.set y.toNat true = D at hdb hcnt hlD' ⊢
  clear y3 y4 hdj
  refine WLoop_v2 ⟨[1, 2, 4, 5, 11, 12, 14, 17], [5], []⟩ (fun (d : Int) (L : List Int) => hdS 122 [(1, .v (vI k)), (2, .v (vI w)), (4, .v (.one (roI av))), (5, .v (.one (.box 5 0))), (11, .v (.one (.own (vkey 11) b.m.ter.length))), (12, .v (.one (.own (vkey 12) b.m.ter.length))), (14, .v (vI y)), (17, .v (vI d))] [(5, b.cs)] [(vkey 11, rwIn b.m.ter.length L), (vkey 12, rwBn b.m.ter.length D)])
    (fun n d L => 0 ≤ d ∧ d + n = 6 ∧ Djb b.m.ter.length sumF (bCo b k w) (nx b.m) (avP av) 0 20 i y d L D) 6 0 L0 rfl ⟨by omega, by omega, hdb⟩ ?_
  clear hdb hlen
  rintro n d L ⟨h1, h2, hdb⟩
  have hlen := hdb.r.len
  ((conv=>whnf);repeat((first|refine Ct ‹_› ?_|refine Cf ‹_› ?_|refine Ct rfl ?_|refine Cf rfl ?_|refine Bi rfl ?_|refine Bz rfl ?_|refine Lr ?_);conv=>whnf))
  refine Cnd_i (fun g => ?_) (fun g => ?_)
  rotate_left
  · have hd := of_decide_eq_false g
    ((conv=>whnf);repeat((first|refine Ct ‹_› ?_|refine Cf ‹_› ?_|refine Ct rfl ?_|refine Cf rfl ?_|refine Bi rfl ?_|refine Bz rfl ?_|refine Lr ?_);conv=>whnf))
    obtain rfl : d = 6 := by omega
    exact ⟨cntF D, L, D, rfl, by omega, rfl, hdb.fin⟩
  have hd := of_decide_eq_true g
  have hsb := stepC_b h (i := y) (d := d) k0 w0
  ((conv=>whnf);repeat((first|refine Ct ‹_› ?_|refine Cf ‹_› ?_|refine Ct rfl ?_|refine Cf rfl ?_|refine Bi rfl ?_|refine Bz rfl ?_|refine Lr ?_);conv=>whnf))
  (refine CallQ_some (F_cStep b h k y d w k0.1 k0.2 y1 y2 h1 (by omega) w0.1 w0.2) ?_ ?_ ?_; rfl; rfl); ((conv=>whnf);repeat((first|refine Ct ‹_› ?_|refine Cf ‹_› ?_|refine Ct rfl ?_|refine Cf rfl ?_|refine Bi rfl ?_|refine Bz rfl ?_|refine Lr ?_);conv=>whnf))
  refine Cnd_i (fun g2 => ?_) (fun g2 => ?_)
  · have e2 : stepC b k y d w = 0 := by simpa using g2
    ((conv=>whnf);repeat((first|refine Ct ‹_› ?_|refine Cf ‹_› ?_|refine Ct rfl ?_|refine Cf rfl ?_|refine Bi rfl ?_|refine Bz rfl ?_|refine Lr ?_);conv=>whnf))
    refine ⟨n - 1, d + 1, L, ?_, by omega, by omega, by omega, hdb.skip (.inl e2)⟩
    rw [wrapI (by omega)]; rfl
  have e2 : stepC b k y d w ≠ 0 := by simpa using g2
  have hnx := hsb.2.2 e2
  have bd1 := hdb.r.bound (by omega) y.toNat (by omega)
  have lw1 := hdb.r.low y.toNat (by omega)
  have hy0 := (hdb.dn y.toNat (by omega) hdb.db).1
  ((conv=>whnf);repeat((first|refine Ct ‹_› ?_|refine Cf ‹_› ?_|refine Ct rfl ?_|refine Cf rfl ?_|refine Bi rfl ?_|refine Bz rfl ?_|refine Lr ?_);conv=>whnf))
  (refine CallQ_some (F_mNext b.m h.wh y d y1 (by omega) h1 (by omega)) ?_ ?_ ?_; rfl; rfl); ((conv=>whnf);repeat((first|refine Ct ‹_› ?_|refine Cf ‹_› ?_|refine Ct rfl ?_|refine Cf rfl ?_|refine Bi rfl ?_|refine Bz rfl ?_|refine Lr ?_);conv=>whnf))
  refine Bnd_i (⟨y1, y2⟩) ?_; ((conv=>whnf);repeat((first|refine Ct ‹_› ?_|refine Cf ‹_› ?_|refine Ct rfl ?_|refine Cf rfl ?_|refine Bi rfl ?_|refine Bz rfl ?_|refine Lr ?_);conv=>whnf))
  (refine CallQ_some (F_l1Has av (nx b.m y d) hav) ?_ ?_ ?_; rfl; rfl); ((conv=>whnf);repeat((first|refine Ct ‹_› ?_|refine Cf ‹_› ?_|refine Ct rfl ?_|refine Cf rfl ?_|refine Bi rfl ?_|refine Bz rfl ?_|refine Lr ?_);conv=>whnf))
  refine Cnd_i (fun g3 => ?_) (fun g3 => ?_)
  rotate_left
  · have e3 : av.contains (nx b.m y d) = true := by rwa [Bool.not_eq_false'] at g3
    ((conv=>whnf);repeat((first|refine Ct ‹_› ?_|refine Cf ‹_› ?_|refine Ct rfl ?_|refine Cf rfl ?_|refine Bi rfl ?_|refine Bz rfl ?_|refine Lr ?_);conv=>whnf))
    refine ⟨n - 1, d + 1, L, ?_, by omega, by omega, by omega, hdb.skip (.inr (by rw [avP, e3]; rfl))⟩
    rw [wrapI (by omega)]; rfl
  have e3 : avP av (nx b.m y d) (bCo b k w y d) = true := g3
  ((conv=>whnf);repeat((first|refine Ct ‹_› ?_|refine Cf ‹_› ?_|refine Ct rfl ?_|refine Cf rfl ?_|refine Bi rfl ?_|refine Bz rfl ?_|refine Lr ?_);conv=>whnf))
  refine Bnd_i (⟨hnx.1, hnx.2⟩) ?_; ((conv=>whnf);repeat((first|refine Ct ‹_› ?_|refine Cf ‹_› ?_|refine Ct rfl ?_|refine Cf rfl ?_|refine Bi rfl ?_|refine Bz rfl ?_|refine Lr ?_);conv=>whnf))
  refine Cnd_i (fun g6 => ?_) (fun g6 => ?_)
  · have d6 := of_decide_eq_true g6
    ((conv=>whnf);repeat((first|refine Ct ‹_› ?_|refine Cf ‹_› ?_|refine Ct rfl ?_|refine Cf rfl ?_|refine Bi rfl ?_|refine Bz rfl ?_|refine Lr ?_);conv=>whnf))
    refine Bnd_i (⟨hnx.1, hnx.2⟩) ?_; ((conv=>whnf);repeat((first|refine Ct ‹_› ?_|refine Cf ‹_› ?_|refine Ct rfl ?_|refine Cf rfl ?_|refine Bi rfl ?_|refine Bz rfl ?_|refine Lr ?_);conv=>whnf))
    refine Rw_i (rwIn b.m.ter.length (L.set (nx b.m y d).toNat (L.getD y.toNat 0 + stepC b k y d w))) (by rw [wrapI (by omega)]; exact rwIn_set _ _ _ _ (by rw [hlen]; omega)) ?_
    ((conv=>whnf);repeat((first|refine Ct ‹_› ?_|refine Cf ‹_› ?_|refine Ct rfl ?_|refine Cf rfl ?_|refine Bi rfl ?_|refine Bz rfl ?_|refine Lr ?_);conv=>whnf))
    have hdy := hdb.yes he (Int.le_refl 0) i0 ⟨h1, by omega⟩ e2 e3 (.inl d6)
    refine ⟨n - 1, d + 1, L.set (nx b.m y d).toNat (L.getD y.toNat 0 + stepC b k y d w), ?_, by omega, by omega, by omega, hdy⟩
    rw [wrapI (by omega)]; rfl
  · have d6 := of_decide_eq_false g6
    ((conv=>whnf);repeat((first|refine Ct ‹_› ?_|refine Cf ‹_› ?_|refine Ct rfl ?_|refine Cf rfl ?_|refine Bi rfl ?_|refine Bz rfl ?_|refine Lr ?_);conv=>whnf))
    refine Bnd_i (⟨hnx.1, hnx.2⟩) ?_; ((conv=>whnf);repeat((first|refine Ct ‹_› ?_|refine Cf ‹_› ?_|refine Ct rfl ?_|refine Cf rfl ?_|refine Bi rfl ?_|refine Bz rfl ?_|refine Lr ?_);conv=>whnf))
    refine Cnd_e (c' := decide (L.getD y.toNat 0 + stepC b k y d w < L.getD (nx b.m y d).toNat 0)) (by rw [wrapI (by omega)]) ?_
    refine Cnd_i (fun g7 => ?_) (fun g7 => ?_)
    · have d7 := of_decide_eq_true g7
      ((conv=>whnf);repeat((first|refine Ct ‹_› ?_|refine Cf ‹_› ?_|refine Ct rfl ?_|refine Cf rfl ?_|refine Bi rfl ?_|refine Bz rfl ?_|refine Lr ?_);conv=>whnf))
      refine Bnd_i (⟨hnx.1, hnx.2⟩) ?_; ((conv=>whnf);repeat((first|refine Ct ‹_› ?_|refine Cf ‹_› ?_|refine Ct rfl ?_|refine Cf rfl ?_|refine Bi rfl ?_|refine Bz rfl ?_|refine Lr ?_);conv=>whnf))
      refine Rw_i (rwIn b.m.ter.length (L.set (nx b.m y d).toNat (L.getD y.toNat 0 + stepC b k y d w))) (by rw [wrapI (by omega)]; exact rwIn_set _ _ _ _ (by rw [hlen]; omega)) ?_
      ((conv=>whnf);repeat((first|refine Ct ‹_› ?_|refine Cf ‹_› ?_|refine Ct rfl ?_|refine Cf rfl ?_|refine Bi rfl ?_|refine Bz rfl ?_|refine Lr ?_);conv=>whnf))
      have hdy := hdb.yes he (Int.le_refl 0) i0 ⟨h1, by omega⟩ e2 e3 (.inr d7)
      refine ⟨n - 1, d + 1, L.set (nx b.m y d).toNat (L.getD y.toNat 0 + stepC b k y d w), ?_, by omega, by omega, by omega, hdy⟩
      rw [wrapI (by omega)]; rfl
    · have d7 := of_decide_eq_false g7
      ((conv=>whnf);repeat((first|refine Ct ‹_› ?_|refine Cf ‹_› ?_|refine Ct rfl ?_|refine Cf rfl ?_|refine Bi rfl ?_|refine Bz rfl ?_|refine Lr ?_);conv=>whnf))
      refine ⟨n - 1, d + 1, L, ?_, by omega, by omega, by omega, hdb.no (fun h0 => ?_)⟩
      · rw [wrapI (by omega)]; rfl
      · exact ⟨by show 0 ≤ L.getD (nx b.m y d).toNat 0; omega, by show L.getD (nx b.m y d).toNat 0 ≤ L.getD y.toNat 0 + stepC b k y d w; omega⟩

theorem F_pAsked (b : Brd) (ho : b.Ok) (k w i : Int) : Fun E0 15 [.agg b.cs, vI k, vI w, vI i] [] (.v (vB (okIn b k w i))) [] [] := by
  refine Fun_of_xc k15 rfl rfl (fun k q h => by cases h) ?_
  ((conv=>whnf);repeat((first|refine Ct ‹_› ?_|refine Cf ‹_› ?_|refine Ct rfl ?_|refine Cf rfl ?_|refine Bi rfl ?_|refine Bz rfl ?_|refine Lr ?_);conv=>whnf))
  (refine CallQ_some (F_bAt b ho k i) ?_ ?_ ?_; rfl; rfl); ((conv=>whnf);repeat((first|refine Ct ‹_› ?_|refine Cf ‹_› ?_|refine Ct rfl ?_|refine Cf rfl ?_|refine Bi rfl ?_|refine Bz rfl ?_|refine Lr ?_);conv=>whnf))
  refine Cnd_i (fun e1 => ?_) (fun g => ?_)
  · ((conv=>whnf);repeat((first|refine Ct ‹_› ?_|refine Cf ‹_› ?_|refine Ct rfl ?_|refine Cf rfl ?_|refine Bi rfl ?_|refine Bz rfl ?_|refine Lr ?_);conv=>whnf))
    (refine CallQ_some (F_l1In _ _ _) ?_ ?_ ?_; rfl; rfl); ((conv=>whnf);repeat((first|refine Ct ‹_› ?_|refine Cf ‹_› ?_|refine Ct rfl ?_|refine Cf rfl ?_|refine Bi rfl ?_|refine Bz rfl ?_|refine Lr ?_);conv=>whnf))
    refine ⟨?_, rfl, rfl⟩
    simp only [okIn, e1, Bool.true_and]
    rfl
  · ((conv=>whnf);repeat((first|refine Ct ‹_› ?_|refine Cf ‹_› ?_|refine Ct rfl ?_|refine Cf rfl ?_|refine Bi rfl ?_|refine Bz rfl ?_|refine Lr ?_);conv=>whnf))
    refine ⟨?_, rfl, rfl⟩
    simp only [okIn, g, Bool.false_and]
    rfl

theorem dL_len {b : Brd} (h : GB b) {k w i : Int} (k0 : 0 ≤ k ∧ k < b.r.knd.length) (w0 : 0 ≤ w ∧ w ≤ 2) (i0 : 0 ≤ i ∧ i < b.m.ter.length) (av : List Int) (bk : Bool) : (dL b k w i av bk).length = b.m.ter.length := (dL_ok h k0 w0 i0 av bk).len

theorem F_pFrom0 (b : Brd) (h : GB b) (k w i : Int) (k0 : 0 ≤ k ∧ k < b.r.knd.length) (w0 : 0 ≤ w ∧ w ≤ 2) (i0 : 0 ≤ i ∧ i < b.m.ter.length) :
    Fun E0 16 [.agg b.cs, vI k, vI w, vI i, .one (.ro 1 0 nog)] [] (.v (.one (.own 0 (dL b k w i [] false).length))) [(0, rwI (dL b k w i [] false))] [] :=
  FunNog (pre := [.agg b.cs, vI k, vI w, vI i]) (post := []) (F_pFrom b h k w i [] k0 w0 i0 (Nat.zero_le _))

theorem F_relaxed0 (b : Brd) (h : GB b) (k w i : Int) (bk : Bool) (k0 : 0 ≤ k ∧ k < b.r.knd.length) (w0 : 0 ≤ w ∧ w ≤ 2) (i0 : 0 ≤ i ∧ i < b.m.ter.length) :
    Fun E0 21 [.agg b.cs, vI k, vI w, vI i, vB bk, .one (.ro 1 0 nog)] [] (.v (.one (.own 0 (dL b k w i [] bk).length))) [(0, rwI (dL b k w i [] bk))] [] :=
  FunNog (pre := [.agg b.cs, vI k, vI w, vI i, vB bk]) (post := []) (F_relaxed b h k w i bk [] k0 w0 i0 (Nat.zero_le _))

structure HxB (q r : Int) : Prop where
  q : 0 ≤ q ∧ q ≤ 9
  r : 0 ≤ r ∧ r ≤ 9

structure PtB (q r n : Int) : Prop where
  n : 1 ≤ n ∧ n ≤ 18
  q : 0 ≤ q ∧ q ≤ 1000
  r : 0 ≤ r ∧ r ≤ 1000

/-! ### trips -/
def okTr (b : Brd) (k w i x : Int) : Bool := okIn b k w i && okIn b k w x

theorem okTr_eq {b : Brd} (h : GB b) {k w i x : Int} (e : okIn b k w i = true) : okIn b k w x = In x 0 (b.m.ter.length - 1) := by
  have hn := h.n
  unfold okIn at e ⊢
  simp only [Bool.and_eq_true] at e
  obtain ⟨⟨⟨e1, e2⟩, _⟩, e4⟩ := e
  rw [e1, e2, e4, hn]; simp

theorem TrOk {b : Brd} (ho : b.Ok) {k w i x : Int} (h : okTr b k w i x = true) : InOk b k w i ∧ 0 ≤ x ∧ x < b.m.ter.length := by
  simp only [okTr, Bool.and_eq_true] at h
  exact ⟨InOk.of ho h.1, (InOk.of ho h.2).i⟩

theorem F_isTrip (b : Brd) (ho : b.Ok) (k w i x : Int) : Fun E0 20 [.agg b.cs, vI k, vI w, vI i, vI x] [] (.v (vB (okTr b k w i x))) [] [] := by
  refine Fun_of_xc k20 rfl rfl (fun k q h => by cases h) ?_
  ((conv=>whnf);repeat((first|refine Ct ‹_› ?_|refine Cf ‹_› ?_|refine Ct rfl ?_|refine Cf rfl ?_|refine Bi rfl ?_|refine Bz rfl ?_|refine Lr ?_);conv=>whnf))
  (refine CallQ_some (F_isMover b ho k w i) ?_ ?_ ?_; rfl; rfl); ((conv=>whnf);repeat((first|refine Ct ‹_› ?_|refine Cf ‹_› ?_|refine Ct rfl ?_|refine Cf rfl ?_|refine Bi rfl ?_|refine Bz rfl ?_|refine Lr ?_);conv=>whnf))
  refine Cnd_i (fun g => ?_) (fun g => ?_)
  · have hi := InOk.of ho g
    have hm := hi.gb.wh.mul
    have hn := hi.gb.n
    ((conv=>whnf);repeat((first|refine Ct ‹_› ?_|refine Cf ‹_› ?_|refine Ct rfl ?_|refine Cf rfl ?_|refine Bi rfl ?_|refine Bz rfl ?_|refine Lr ?_);conv=>whnf))
    (refine CallQ_some (F_sizeOf b) ?_ ?_ ?_; rfl; rfl); ((conv=>whnf);repeat((first|refine Ct ‹_› ?_|refine Cf ‹_› ?_|refine Ct rfl ?_|refine Cf rfl ?_|refine Bi rfl ?_|refine Bz rfl ?_|refine Lr ?_);conv=>whnf))
    (refine CallQ_some (F_isIndex x b.m.ter.length ⟨by unfold i64; omega, by omega⟩) ?_ ?_ ?_; rfl; rfl); ((conv=>whnf);repeat((first|refine Ct ‹_› ?_|refine Cf ‹_› ?_|refine Ct rfl ?_|refine Cf rfl ?_|refine Bi rfl ?_|refine Bz rfl ?_|refine Lr ?_);conv=>whnf))
    rw [okTr, g, okTr_eq hi.gb g, Bool.true_and]
    exact ⟨rfl, rfl, rfl⟩
  · ((conv=>whnf);repeat((first|refine Ct ‹_› ?_|refine Cf ‹_› ?_|refine Ct rfl ?_|refine Cf rfl ?_|refine Bi rfl ?_|refine Bz rfl ?_|refine Lr ?_);conv=>whnf))
    rw [okTr, g, Bool.false_and]
    exact ⟨rfl, rfl, rfl⟩

/-! ### a place to meet -/
def betM (L L' : List Int) (x y : Int) : Prop := max (L.getD x.toNat 0) (L'.getD x.toNat 0) < max (L.getD y.toNat 0) (L'.getD y.toNat 0) ∨ (max (L.getD x.toNat 0) (L'.getD x.toNat 0) = max (L.getD y.toNat 0) (L'.getD y.toNat 0) ∧ L.getD x.toNat 0 + L'.getD x.toNat 0 < L.getD y.toNat 0 + L'.getD y.toNat 0)

instance (L L' : List Int) (x y : Int) : Decidable (betM L L' x y) := by unfold betM; infer_instance

structure KiOk (b : Brd) (k i : Int) : Prop where
  gb : GB b
  k : 0 ≤ k ∧ k < b.r.knd.length
  i : 0 ≤ i ∧ i < b.m.ter.length

structure KdOk (b : Brd) (k : Int) : Prop where
  gb : GB b
  k : 0 ≤ k ∧ k < b.r.knd.length

/-! ### the least place -/
open Classical in
noncomputable def lstI (P : Int → Prop) : Nat → Int
  | 0 => -1
  | n + 1 => if lstI P n < 0 ∧ P n then n else lstI P n

open Classical in
theorem lstI_succ (P : Int → Prop) (n : Nat) : lstI P (n + 1) = if lstI P n < 0 ∧ P n then (n : Int) else lstI P n := rfl

theorem lstI_spec (P : Int → Prop) (n : Nat) : (lstI P n = -1 ∧ ∀ i : Nat, i < n → ¬ P i) ∨ (0 ≤ lstI P n ∧ lstI P n < n ∧ P (lstI P n) ∧ ∀ i : Nat, (i : Int) < lstI P n → ¬ P i) := by
  induction n with
  | zero => exact .inl ⟨rfl, fun i hi => by omega⟩
  | succ n ih =>
    rw [lstI_succ]
    by_cases h : lstI P n < 0 ∧ P n
    · rw [if_pos h]
      rcases ih with ⟨h1, h2⟩ | ⟨h1, _⟩
      · exact .inr ⟨by omega, by omega, h.2, fun i hi => h2 i (by omega)⟩
      · omega
    · rw [if_neg h]
      rcases ih with ⟨h1, h2⟩ | ⟨h1, h2, h3, h4⟩
      · refine .inl ⟨h1, fun i hi => ?_⟩
        by_cases e : i = n
        · subst e; exact fun hp => h ⟨by omega, hp⟩
        · exact h2 i (by omega)
      · exact .inr ⟨h1, by omega, h3, h4⟩

theorem lstI_eq {P : Int → Prop} {n : Nat} {z : Int} (h0 : 0 ≤ z) (h1 : z < n) (hz : P z) (hl : ∀ i : Nat, i < n → P i → z ≤ i) : lstI P n = z := by
  rcases lstI_spec P n with ⟨_, h2⟩ | ⟨a1, a2, a3, a4⟩
  · exact absurd (by rw [show ((z.toNat : Nat) : Int) = z by omega]; exact hz) (h2 z.toNat (by omega))
  · have b1 := hl (lstI P n).toNat (by omega) (by rw [show (((lstI P n).toNat : Nat) : Int) = lstI P n by omega]; exact a3)
    by_cases e : z < lstI P n
    · exact absurd (by rw [show ((z.toNat : Nat) : Int) = z by omega]; exact hz) (a4 z.toNat (by omega))
    · omega

structure SpD (N : Nat) (g : Int → Int → Prop) (op : Int → Bool) (S : Int → Prop) (a : Int) (L B : List Int) (n : Int) : Prop where
  hL : DstS N g op S L
  hB : DstS N g op (fun k => k = a) B
  sym : ∀ j k, g j k → g k j
  gb : ∀ j k, g j k → (0 ≤ j ∧ j < N)
  so : ∀ k, S k → op k = true
  sb : ∀ k, S k → 0 ≤ k ∧ k < N
  ab : 0 ≤ a ∧ a < N
  n0 : 0 ≤ n
  hn : L.getD a.toNat 0 = n
namespace SpD

variable {N : Nat} {g : Int → Int → Prop} {op : Int → Bool} {S : Int → Prop} {a n : Int} {L B : List Int}

end SpD

/-! ### the way down -/
def fdP (b : Brd) (k w : Int) (L : List Int) (x d : Int) : Prop := stepC b k x d w ≠ 0 ∧ 0 ≤ L.getD (nx b.m x d).toNat 0 ∧ L.getD (nx b.m x d).toNat 0 + stepC b k x d w = L.getD x.toNat 0

noncomputable def fdir (b : Brd) (k w : Int) (L : List Int) (x : Int) : Int := lstI (fdP b k w L x) 6

noncomputable def pathL (b : Brd) (k w : Int) (L : List Int) (y : Int) : Nat → Int → List Int
  | 0, _ => []
  | n + 1, x => if x = y then [] else fdir b k w L x :: pathL b k w L y n (nx b.m x (fdir b k w L x))

theorem pathL_len (b : Brd) (k w : Int) (L : List Int) (y : Int) (n : Nat) (x : Int) : (pathL b k w L y n x).length ≤ n := by
  induction n generalizing x with
  | zero => exact Nat.le_refl _
  | succ n ih =>
    unfold pathL
    split
    · exact Nat.zero_le _
    · have := ih (nx b.m x (fdir b k w L x))
      rw [List.length_cons]; omega

theorem pathL_end (b : Brd) (k w : Int) (L : List Int) (y : Int) (n : Nat) : pathL b k w L y n y = [] := by
  cases n with
  | zero => rfl
  | succ n => rw [pathL, if_pos rfl]

theorem fdir_eq {b : Brd} {k w : Int} {L : List Int} {x d : Int} (h0 : 0 ≤ d) (h5 : d < 6) (hp : fdP b k w L x d) (hl : ∀ e : Nat, (e : Int) < d → ¬ fdP b k w L x e) : fdir b k w L x = d :=
  lstI_eq h0 h5 hp (fun e _ he => by
    by_cases c : (e : Int) < d
    · exact absurd he (hl e c)
    · omega)

theorem dL_z {b : Brd} (h : GB b) {k w y : Int} (k0 : 0 ≤ k ∧ k < b.r.knd.length) (w0 : 0 ≤ w ∧ w ≤ 2) (y0 : 0 ≤ y ∧ y < b.m.ter.length) {x : Int} (x0 : 0 ≤ x ∧ x < b.m.ter.length) (hx : (dL b k w y [] true).getD x.toNat 0 = 0) : x = y := by
  have hd := dL_ok h k0 w0 y0 [] true
  have he := eok_s h k0 w0 [] true
  by_cases e : x = y
  · exact e
  · obtain ⟨d, hd5, h1, h2, h3, h4⟩ := hd.first he y0 x0 (by omega) e
    have hsb := stepC_b h (i := x) (d := d) k0 w0
    have h1 : stepC b k x d w ≠ 0 := h1
    have h4 : (dL b k w y [] true).getD (nx b.m x d).toNat 0 + stepC b k x d w = (dL b k w y [] true).getD x.toNat 0 := h4
    omega

theorem fd_ex {b : Brd} (h : GB b) {k w y : Int} (k0 : 0 ≤ k ∧ k < b.r.knd.length) (w0 : 0 ≤ w ∧ w ≤ 2) (y0 : 0 ≤ y ∧ y < b.m.ter.length) {x : Int} (x0 : 0 ≤ x ∧ x < b.m.ter.length) (hx : 0 ≤ (dL b k w y [] true).getD x.toNat 0) (hne : x ≠ y) : ∃ d : Nat, d < 6 ∧ fdP b k w (dL b k w y [] true) x d := by
  obtain ⟨d, hd5, h1, h2, h3, h4⟩ := (dL_ok h k0 w0 y0 [] true).first (eok_s h k0 w0 [] true) y0 x0 hx hne
  refine ⟨d.toNat, by omega, ?_⟩
  rw [show ((d.toNat : Nat) : Int) = d by omega]
  exact ⟨h1, h3, h4⟩

noncomputable abbrev cpL (b : Brd) (k w i y : Int) : List Int := pathL b k w (dL b k w y [] true) y ((dL b k w y [] true).getD i.toNat 0).toNat i

noncomputable def cpR (b : Brd) (k w i y : Int) : List Int × Bool := if okTr b k w i y = true then if decide ((dL b k w y [] true).getD i.toNat 0 < 0) = true then ([], false) else (cpL b k w i y, true) else ([], false)

theorem cpL_len {b : Brd} (h : GB b) {k w y : Int} (k0 : 0 ≤ k ∧ k < b.r.knd.length) (w0 : 0 ≤ w ∧ w ≤ 2) (y0 : 0 ≤ y ∧ y < b.m.ter.length) {i : Int} (i0 : 0 ≤ i ∧ i < b.m.ter.length) : (cpL b k w i y).length ≤ 2000 := by
  have h1 := pathL_len b k w (dL b k w y [] true) y ((dL b k w y [] true).getD i.toNat 0).toNat i
  have h2 := dL_le h k0 w0 y0 [] true i.toNat (by omega)
  show (pathL _ _ _ _ _ _ _).length ≤ _
  omega

theorem cpR_len (b : Brd) (ho : b.Ok) (k w i y : Int) : (cpR b k w i y).1.length ≤ 1048576 := by
  unfold cpR
  split
  · rename_i g
    obtain ⟨hi, hx⟩ := TrOk ho g
    split
    · exact Nat.zero_le _
    · have := cpL_len hi.gb hi.k hi.w hx hi.i
      show (cpL b k w i y).length ≤ _
      omega
  · exact Nat.zero_le _

theorem F_pTo (b : Brd) (h : GB b) (k w i : Int) (k0 : 0 ≤ k ∧ k < b.r.knd.length) (w0 : 0 ≤ w ∧ w ≤ 2) (i0 : 0 ≤ i ∧ i < b.m.ter.length) :
    Fun E0 37 [.agg b.cs, vI k, vI w, vI i] [] (.v (.one (.own 0 (dL b k w i [] true).length))) [(0, rwI (dL b k w i [] true))] [] := by
  have hm := h.wh.mul
  have hn := h.n
  have he := eok_s h k0 w0 [] true
  have hM : (0 : Int) + 20 * (b.m.ter.length : Int) + 20 < ((4000 : Nat) : Int) := by omega
  refine Fun_of_xc k37 rfl rfl (nrC (rwI_no _) nrN) ?_
  ((conv=>whnf);repeat((first|refine Ct ‹_› ?_|refine Cf ‹_› ?_|refine Ct rfl ?_|refine Cf rfl ?_|refine Bi rfl ?_|refine Bz rfl ?_|refine Lr ?_);conv=>whnf))
  refine Rw_i (rwI []) (rwI_nil _) ?_
  ((conv=>whnf);repeat((first|refine Ct ‹_› ?_|refine Cf ‹_› ?_|refine Ct rfl ?_|refine Cf rfl ?_|refine Bi rfl ?_|refine Bz rfl ?_|refine Lr ?_);conv=>whnf))
  (refine CallQ_some (F_mSizeB b h) ?_ ?_ ?_; rfl; rfl); ((conv=>whnf);repeat((first|refine Ct ‹_› ?_|refine Cf ‹_› ?_|refine Ct rfl ?_|refine Cf rfl ?_|refine Bi rfl ?_|refine Bz rfl ?_|refine Lr ?_);conv=>whnf))
  refine Bnd_i (by omega) ?_
  ((conv=>whnf);repeat((first|refine Ct ‹_› ?_|refine Cf ‹_› ?_|refine Ct rfl ?_|refine Cf rfl ?_|refine Bi rfl ?_|refine Bz rfl ?_|refine Lr ?_);conv=>whnf))
  refine Rw_i (rwIn b.m.ter.length (List.replicate b.m.ter.length 0)) (rwIn_zero _) ?_
  ((conv=>whnf);repeat((first|refine Ct ‹_› ?_|refine Cf ‹_› ?_|refine Ct rfl ?_|refine Cf rfl ?_|refine Bi rfl ?_|refine Bz rfl ?_|refine Lr ?_);conv=>whnf))
  refine WLoop_v2 ⟨[1, 2, 3, 4, 9, 21, 22], [4], []⟩ (fun (t : Int) (L : List Int) => hdS 85 [(1, .v (vI k)), (2, .v (vI w)), (3, .v (vI i)), (4, .v (.one (.box 4 0))), (9, .v (.one (.own (vkey 9) b.m.ter.length))), (21, .v (vI b.m.ter.length)), (22, .v (vI t))] [(4, b.cs)] [(vkey 9, rwIn b.m.ter.length L)])
    (fun n t L => 0 ≤ t ∧ t + n = b.m.ter.length ∧ L.length = b.m.ter.length ∧ ∀ j : Nat, (j : Int) < t → L.getD j 0 = -1) b.m.ter.length 0 (List.replicate b.m.ter.length 0) rfl ⟨by omega, by omega, by simp, fun j hj => by omega⟩ ?_
  rintro n t L ⟨h1, h2, hlen, h3⟩
  ((conv=>whnf);repeat((first|refine Ct ‹_› ?_|refine Cf ‹_› ?_|refine Ct rfl ?_|refine Cf rfl ?_|refine Bi rfl ?_|refine Bz rfl ?_|refine Lr ?_);conv=>whnf))
  refine Cnd_i (fun g => ?_) (fun g => ?_)
  · have ht := of_decide_eq_true g
    ((conv=>whnf);repeat((first|refine Ct ‹_› ?_|refine Cf ‹_› ?_|refine Ct rfl ?_|refine Cf rfl ?_|refine Bi rfl ?_|refine Bz rfl ?_|refine Lr ?_);conv=>whnf))
    refine Bnd_i (⟨h1, ht⟩) ?_; ((conv=>whnf);repeat((first|refine Ct ‹_› ?_|refine Cf ‹_› ?_|refine Ct rfl ?_|refine Cf rfl ?_|refine Bi rfl ?_|refine Bz rfl ?_|refine Lr ?_);conv=>whnf))
    refine Rw_i (rwIn b.m.ter.length (L.set t.toNat (-1))) (rwIn_set _ _ _ _ (by omega)) ?_
    ((conv=>whnf);repeat((first|refine Ct ‹_› ?_|refine Cf ‹_› ?_|refine Ct rfl ?_|refine Cf rfl ?_|refine Bi rfl ?_|refine Bz rfl ?_|refine Lr ?_);conv=>whnf))
    refine ⟨n - 1, t + 1, L.set t.toNat (-1), ?_, by omega, by omega, by omega, by simp [hlen], fun j hj => ?_⟩
    · rw [wrapI (by omega)]; rfl
    · rw [getD_set _ _ _ _ (by omega)]
      split
      · rfl
      · exact h3 j (by omega)
  have ht := of_decide_eq_false g
  have hL := all_neg1 hlen (fun j hj => h3 j (by omega))
  subst hL
  clear h1 h2 h3 hlen g ht
  ((conv=>whnf);repeat((first|refine Ct ‹_› ?_|refine Cf ‹_› ?_|refine Ct rfl ?_|refine Cf rfl ?_|refine Bi rfl ?_|refine Bz rfl ?_|refine Lr ?_);conv=>whnf))
  refine Bnd_i (⟨i0.1, i0.2⟩) ?_; ((conv=>whnf);repeat((first|refine Ct ‹_› ?_|refine Cf ‹_› ?_|refine Ct rfl ?_|refine Cf rfl ?_|refine Bi rfl ?_|refine Bz rfl ?_|refine Lr ?_);conv=>whnf))
  refine Rw_i (rwIn b.m.ter.length ((List.replicate b.m.ter.length (-1)).set i.toNat 0)) (rwIn_set _ _ _ _ (by simp; omega)) ?_
  ((conv=>whnf);repeat((first|refine Ct ‹_› ?_|refine Cf ‹_› ?_|refine Ct rfl ?_|refine Cf rfl ?_|refine Bi rfl ?_|refine Bz rfl ?_|refine Lr ?_);conv=>whnf))
  have hin : Rlx b.m.ter.length sumF (bEg b k w [] true) 0 20 i ((List.replicate b.m.ter.length (-1)).set i.toNat 0) := Rlx.init (by omega) (Int.le_refl 0) i0
  refine WLoop_v2 ⟨[1, 2, 4, 9, 11], [4], []⟩ (fun (c : Bool) (L : List Int) => hdS 85 [(1, .v (vI k)), (2, .v (vI w)), (4, .v (.one (.box 4 0))), (9, .v (.one (.own (vkey 9) b.m.ter.length))), (11, .v (vB c))] [(4, b.cs)] [(vkey 9, rwIn b.m.ter.length L)])
    (fun n c L => n = 2 * mu 4000 L + (if c = true then 1 else 0) ∧ Rlx b.m.ter.length sumF (bEg b k w [] true) 0 20 i L ∧ (c = false → DstB b k w i [] true L)) _ true _ rfl ⟨rfl, hin, fun h => by cases h⟩ ?_
  rintro n0 c0 L0 ⟨hn0, hr0, hd0⟩
  ((conv=>whnf);repeat((first|refine Ct ‹_› ?_|refine Cf ‹_› ?_|refine Ct rfl ?_|refine Cf rfl ?_|refine Bi rfl ?_|refine Bz rfl ?_|refine Lr ?_);conv=>whnf))
  refine Cnd_i (fun g => ?_) (fun g => ?_)
  rotate_left
  · have hd := hd0 g
    ((conv=>whnf);repeat((first|refine Ct ‹_› ?_|refine Cf ‹_› ?_|refine Ct rfl ?_|refine Cf rfl ?_|refine Bi rfl ?_|refine Bz rfl ?_|refine Lr ?_);conv=>whnf))
    have e1 : dL b k w i [] true = L0 := hd.eq.symm
    rw [e1, rwIn_eq hd.len, hd.len]
    exact ⟨rfl, rfl, rfl⟩
  subst g
  ((conv=>whnf);repeat((first|refine Ct ‹_› ?_|refine Cf ‹_› ?_|refine Ct rfl ?_|refine Cf rfl ?_|refine Bi rfl ?_|refine Bz rfl ?_|refine Lr ?_);conv=>whnf))
  refine WLoop_v3 ⟨[1, 2, 4, 9, 11, 34, 35], [4], []⟩ (fun (x : Int) (c : Bool) (L : List Int) => hdS 85 [(1, .v (vI k)), (2, .v (vI w)), (4, .v (.one (.box 4 0))), (9, .v (.one (.own (vkey 9) b.m.ter.length))), (11, .v (vB c)), (34, .v (vI b.m.ter.length)), (35, .v (vI x))] [(4, b.cs)] [(vkey 9, rwIn b.m.ter.length L)])
    (fun n x c L => 0 ≤ x ∧ x + n = b.m.ter.length ∧ Swp b.m.ter.length sumF (bCo b k w) (nx b.m) (avP []) true 0 20 i 4000 L0 x 0 L c) b.m.ter.length 0 false L0 rfl ⟨by omega, by omega, Swp.init hr0⟩ ?_
  rintro m x c L ⟨x1, x2, hsw⟩
  ((conv=>whnf);repeat((first|refine Ct ‹_› ?_|refine Cf ‹_› ?_|refine Ct rfl ?_|refine Cf rfl ?_|refine Bi rfl ?_|refine Bz rfl ?_|refine Lr ?_);conv=>whnf))
  refine Cnd_i (fun g => ?_) (fun g => ?_)
  rotate_left
  · have hx := of_decide_eq_false g
    ((conv=>whnf);repeat((first|refine Ct ‹_› ?_|refine Cf ‹_› ?_|refine Ct rfl ?_|refine Cf rfl ?_|refine Bi rfl ?_|refine Bz rfl ?_|refine Lr ?_);conv=>whnf))
    cases c with
    | true =>
      have := hsw.lt rfl
      refine ⟨2 * mu 4000 L + 1, true, L, rfl, by rw [hn0, if_pos rfl]; omega, rfl, hsw.r, fun h => by cases h⟩
    | false =>
      obtain ⟨e1, _⟩ := hsw.eq rfl
      refine ⟨2 * mu 4000 L, false, L, rfl, by rw [hn0, if_pos rfl, e1]; omega, rfl, hsw.r, fun _ => hsw.fin (by omega) he (Int.le_refl 0) i0⟩
  have hx := of_decide_eq_true g
  ((conv=>whnf);repeat((first|refine Ct ‹_› ?_|refine Cf ‹_› ?_|refine Ct rfl ?_|refine Cf rfl ?_|refine Bi rfl ?_|refine Bz rfl ?_|refine Lr ?_);conv=>whnf))
  refine WLoop_v3 ⟨[1, 2, 4, 9, 11, 12, 13, 34, 35], [4], []⟩ (fun (d : Int) (c : Bool) (L : List Int) => hdS 85 [(1, .v (vI k)), (2, .v (vI w)), (4, .v (.one (.box 4 0))), (9, .v (.one (.own (vkey 9) b.m.ter.length))), (11, .v (vB c)), (12, .v (vI x)), (13, .v (vI d)), (34, .v (vI b.m.ter.length)), (35, .v (vI x))] [(4, b.cs)] [(vkey 9, rwIn b.m.ter.length L)])
    (fun n d c L => 0 ≤ d ∧ d + n = 6 ∧ Swp b.m.ter.length sumF (bCo b k w) (nx b.m) (avP []) true 0 20 i 4000 L0 x d L c) 6 0 c L rfl ⟨by omega, by omega, hsw⟩ ?_
  clear hsw
  rintro n d c L ⟨h1, h2, hsw⟩
  have hlen := hsw.r.len
  ((conv=>whnf);repeat((first|refine Ct ‹_› ?_|refine Cf ‹_› ?_|refine Ct rfl ?_|refine Cf rfl ?_|refine Bi rfl ?_|refine Bz rfl ?_|refine Lr ?_);conv=>whnf))
  refine Cnd_i (fun g => ?_) (fun g => ?_)
  rotate_left
  · have hd := of_decide_eq_false g
    ((conv=>whnf);repeat((first|refine Ct ‹_› ?_|refine Cf ‹_› ?_|refine Ct rfl ?_|refine Cf rfl ?_|refine Bi rfl ?_|refine Bz rfl ?_|refine Lr ?_);conv=>whnf))
    obtain rfl : d = 6 := by omega
    refine ⟨m - 1, x + 1, c, L, ?_, by omega, by omega, by omega, hsw.nxt⟩
    rw [wrapI (by omega)]; rfl
  have hd := of_decide_eq_true g
  have hx : 0 ≤ x ∧ x < b.m.ter.length := ⟨x1, hx⟩
  have hsb := stepC_b h (i := x) (d := d) k0 w0
  ((conv=>whnf);repeat((first|refine Ct ‹_› ?_|refine Cf ‹_› ?_|refine Ct rfl ?_|refine Cf rfl ?_|refine Bi rfl ?_|refine Bz rfl ?_|refine Lr ?_);conv=>whnf))
  (refine CallQ_some (F_cStep b h k x d w k0.1 k0.2 hx.1 hx.2 h1 (by omega) w0.1 w0.2) ?_ ?_ ?_; rfl; rfl); ((conv=>whnf);repeat((first|refine Ct ‹_› ?_|refine Cf ‹_› ?_|refine Ct rfl ?_|refine Cf rfl ?_|refine Bi rfl ?_|refine Bz rfl ?_|refine Lr ?_);conv=>whnf))
  refine Cnd_i (fun g2 => ?_) (fun g2 => ?_)
  · have e2 : stepC b k x d w = 0 := by simpa using g2
    ((conv=>whnf);repeat((first|refine Ct ‹_› ?_|refine Cf ‹_› ?_|refine Ct rfl ?_|refine Cf rfl ?_|refine Bi rfl ?_|refine Bz rfl ?_|refine Lr ?_);conv=>whnf))
    refine ⟨n - 1, d + 1, c, L, ?_, by omega, by omega, by omega, hsw.skip (.inl e2)⟩
    rw [wrapI (by omega)]; rfl
  have e2 : stepC b k x d w ≠ 0 := by simpa using g2
  have hnx := hsb.2.2 e2
  have e3 : avP [] (nx b.m x d) (bCo b k w x d) = true := rfl
  have bd1 := hsw.r.bound (by omega) x.toNat (by omega)
  have bd2 := hsw.r.bound (by omega) (nx b.m x d).toNat (by omega)
  have lw1 := hsw.r.low x.toNat (by omega)
  have lw2 := hsw.r.low (nx b.m x d).toNat (by omega)
  have hj := hnx
  have hk := hx
  ((conv=>whnf);repeat((first|refine Ct ‹_› ?_|refine Cf ‹_› ?_|refine Ct rfl ?_|refine Cf rfl ?_|refine Bi rfl ?_|refine Bz rfl ?_|refine Lr ?_);conv=>whnf))
  (refine CallQ_some (F_mNext b.m h.wh x d hx.1 (by omega) h1 (by omega)) ?_ ?_ ?_; rfl; rfl); ((conv=>whnf);repeat((first|refine Ct ‹_› ?_|refine Cf ‹_› ?_|refine Ct rfl ?_|refine Cf rfl ?_|refine Bi rfl ?_|refine Bz rfl ?_|refine Lr ?_);conv=>whnf))
  refine Bnd_i (⟨hj.1, hj.2⟩) ?_; ((conv=>whnf);repeat((first|refine Ct ‹_› ?_|refine Cf ‹_› ?_|refine Ct rfl ?_|refine Cf rfl ?_|refine Bi rfl ?_|refine Bz rfl ?_|refine Lr ?_);conv=>whnf))
  refine Cnd_i (fun g5 => ?_) (fun g5 => ?_)
  · have d5 := of_decide_eq_true g5
    ((conv=>whnf);repeat((first|refine Ct ‹_› ?_|refine Cf ‹_› ?_|refine Ct rfl ?_|refine Cf rfl ?_|refine Bi rfl ?_|refine Bz rfl ?_|refine Lr ?_);conv=>whnf))
    refine Bnd_i (⟨hk.1, hk.2⟩) ?_; ((conv=>whnf);repeat((first|refine Ct ‹_› ?_|refine Cf ‹_› ?_|refine Ct rfl ?_|refine Cf rfl ?_|refine Bi rfl ?_|refine Bz rfl ?_|refine Lr ?_);conv=>whnf))
    refine Cnd_i (fun g6 => ?_) (fun g6 => ?_)
    · have d6 := of_decide_eq_true g6
      ((conv=>whnf);repeat((first|refine Ct ‹_› ?_|refine Cf ‹_› ?_|refine Ct rfl ?_|refine Cf rfl ?_|refine Bi rfl ?_|refine Bz rfl ?_|refine Lr ?_);conv=>whnf))
      refine Bnd_i (⟨hk.1, hk.2⟩) ?_; ((conv=>whnf);repeat((first|refine Ct ‹_› ?_|refine Cf ‹_› ?_|refine Ct rfl ?_|refine Cf rfl ?_|refine Bi rfl ?_|refine Bz rfl ?_|refine Lr ?_);conv=>whnf))
      refine Rw_i (rwIn b.m.ter.length (L.set (x).toNat (L.getD (nx b.m x d).toNat 0 + stepC b k x d w))) (by rw [wrapI (by omega)]; exact rwIn_set _ _ _ _ (by rw [hlen]; omega)) ?_
      ((conv=>whnf);repeat((first|refine Ct ‹_› ?_|refine Cf ‹_› ?_|refine Ct rfl ?_|refine Cf rfl ?_|refine Bi rfl ?_|refine Bz rfl ?_|refine Lr ?_);conv=>whnf))
      have hsy := hsw.yes (j := nx b.m x d) (k := x) he (Int.le_refl 0) i0 hM hx ⟨h1, by omega⟩ e2 e3 rfl rfl d5 (.inl d6)
      refine ⟨n - 1, d + 1, true, L.set (x).toNat (L.getD (nx b.m x d).toNat 0 + stepC b k x d w), ?_, by omega, by omega, by omega, hsy⟩
      rw [wrapI (n := d + 1) (by omega)]; rfl
    · have d6 := of_decide_eq_false g6
      ((conv=>whnf);repeat((first|refine Ct ‹_› ?_|refine Cf ‹_› ?_|refine Ct rfl ?_|refine Cf rfl ?_|refine Bi rfl ?_|refine Bz rfl ?_|refine Lr ?_);conv=>whnf))
      refine Bnd_i (⟨hk.1, hk.2⟩) ?_; ((conv=>whnf);repeat((first|refine Ct ‹_› ?_|refine Cf ‹_› ?_|refine Ct rfl ?_|refine Cf rfl ?_|refine Bi rfl ?_|refine Bz rfl ?_|refine Lr ?_);conv=>whnf))
      have hc : decide (IntKind.i64.wrap (L.getD (nx b.m x d).toNat 0 + stepC b k x d w) < L.getD (x).toNat 0) = decide (L.getD (nx b.m x d).toNat 0 + stepC b k x d w < L.getD (x).toNat 0) := by rw [wrapI (by omega)]
      refine Cnd_i (fun g7 => ?_) (fun g7 => ?_)
      · have d7 := of_decide_eq_true (hc.symm.trans g7)
        ((conv=>whnf);repeat((first|refine Ct ‹_› ?_|refine Cf ‹_› ?_|refine Ct rfl ?_|refine Cf rfl ?_|refine Bi rfl ?_|refine Bz rfl ?_|refine Lr ?_);conv=>whnf))
        refine Bnd_i (⟨hk.1, hk.2⟩) ?_; ((conv=>whnf);repeat((first|refine Ct ‹_› ?_|refine Cf ‹_› ?_|refine Ct rfl ?_|refine Cf rfl ?_|refine Bi rfl ?_|refine Bz rfl ?_|refine Lr ?_);conv=>whnf))
        refine Rw_i (rwIn b.m.ter.length (L.set (x).toNat (L.getD (nx b.m x d).toNat 0 + stepC b k x d w))) (by rw [wrapI (by omega)]; exact rwIn_set _ _ _ _ (by rw [hlen]; omega)) ?_
        ((conv=>whnf);repeat((first|refine Ct ‹_› ?_|refine Cf ‹_› ?_|refine Ct rfl ?_|refine Cf rfl ?_|refine Bi rfl ?_|refine Bz rfl ?_|refine Lr ?_);conv=>whnf))
        have hsy := hsw.yes (j := nx b.m x d) (k := x) he (Int.le_refl 0) i0 hM hx ⟨h1, by omega⟩ e2 e3 rfl rfl d5 (.inr d7)
        refine ⟨n - 1, d + 1, true, L.set (x).toNat (L.getD (nx b.m x d).toNat 0 + stepC b k x d w), ?_, by omega, by omega, by omega, hsy⟩
        rw [wrapI (n := d + 1) (by omega)]; rfl
      · have d7 := of_decide_eq_false (hc.symm.trans g7)
        ((conv=>whnf);repeat((first|refine Ct ‹_› ?_|refine Cf ‹_› ?_|refine Ct rfl ?_|refine Cf rfl ?_|refine Bi rfl ?_|refine Bz rfl ?_|refine Lr ?_);conv=>whnf))
        refine ⟨n - 1, d + 1, c, L, ?_, by omega, by omega, by omega, hsw.no (fun h0 => ?_)⟩
        · rw [wrapI (n := d + 1) (by omega)]; rfl
        · exact ⟨by show 0 ≤ L.getD (x).toNat 0; omega, by show L.getD (x).toNat 0 ≤ L.getD (nx b.m x d).toNat 0 + stepC b k x d w; omega⟩
  · have d5 := of_decide_eq_false g5
    ((conv=>whnf);repeat((first|refine Ct ‹_› ?_|refine Cf ‹_› ?_|refine Ct rfl ?_|refine Cf rfl ?_|refine Bi rfl ?_|refine Bz rfl ?_|refine Lr ?_);conv=>whnf))
    refine ⟨n - 1, d + 1, c, L, ?_, by omega, by omega, by omega, hsw.no (fun h0 => ?_)⟩
    · rw [wrapI (n := d + 1) (by omega)]; rfl
    · exact absurd h0 d5

theorem F_pPath (b : Brd) (h : GB b) (k w i y : Int) (k0 : 0 ≤ k ∧ k < b.r.knd.length) (w0 : 0 ≤ w ∧ w ≤ 2) (i0 : 0 ≤ i ∧ i < b.m.ter.length) (y0 : 0 ≤ y ∧ y < b.m.ter.length) (hLi : 0 ≤ (dL b k w y [] true).getD i.toNat 0) :
    Fun E0 17 [.agg b.cs, vI k, vI w, vI i, vI y] [] (.v (.one (.own 0 (cpL b k w i y).length))) [(0, rwI (cpL b k w i y))] [] := by
  have hm := h.wh.mul
  have hn := h.n
  have hlen := dL_len h k0 w0 y0 [] true
  have hle := dL_le h k0 w0 y0 [] true
  have hz := fun x x0 hx => dL_z h k0 w0 y0 (x := x) x0 hx
  have hex := fun x x0 hx hne => fd_ex h k0 w0 y0 (x := x) x0 hx hne
  have hRl := cpL_len h k0 w0 y0 i0
  refine Fun_of_xc k17 rfl rfl (nrC (rwI_no _) nrN) ?_
  ((conv=>whnf);repeat((first|refine Ct ‹_› ?_|refine Cf ‹_› ?_|refine Ct rfl ?_|refine Cf rfl ?_|refine Bi rfl ?_|refine Bz rfl ?_|refine Lr ?_);conv=>whnf))
  refine Rw_i (rwI []) (rwI_nil _) ?_
  ((conv=>whnf);repeat((first|refine Ct ‹_› ?_|refine Cf ‹_› ?_|refine Ct rfl ?_|refine Cf rfl ?_|refine Bi rfl ?_|refine Bz rfl ?_|refine Lr ?_);conv=>whnf))
  (refine CallQ_some (F_pTo b h k w y k0 w0 y0) ?_ ?_ ?_; rfl; rfl); ((conv=>whnf);repeat((first|refine Ct ‹_› ?_|refine Cf ‹_› ?_|refine Ct rfl ?_|refine Cf rfl ?_|refine Bi rfl ?_|refine Bz rfl ?_|refine Lr ?_);conv=>whnf))
  refine Rw_i (rwI []) (rwI_nil _) ?_
  ((conv=>whnf);repeat((first|refine Ct ‹_› ?_|refine Cf ‹_› ?_|refine Ct rfl ?_|refine Cf rfl ?_|refine Bi rfl ?_|refine Bz rfl ?_|refine Lr ?_);conv=>whnf))
  unfold cpL at *
  generalize hLL : dL b k w y [] true = L at *
  generalize hR : pathL b k w L y (L.getD i.toNat 0).toNat i = R at *
  refine WLoop_v2 ⟨[1, 2, 3, 4, 5, 11, 12], [5], []⟩ (fun (x : Int) (out : List Int) => hdS 65 [(1, .v (vI k)), (2, .v (vI w)), (3, .v (vI x)), (4, .v (vI y)), (5, .v (.one (.box 5 0))), (11, .v (.one (.own (vkey 11) L.length))), (12, .v (.one (.own (vkey 12) out.length)))] [(5, b.cs)] [(vkey 11, rwI L), (vkey 12, rwI out)])
    (fun n x out => (0 ≤ x ∧ x < b.m.ter.length) ∧ 0 ≤ L.getD x.toNat 0 ∧ (L.getD x.toNat 0).toNat ≤ n ∧ out ++ pathL b k w L y n x = R) (L.getD i.toNat 0).toNat i [] rfl ⟨i0, hLi, Nat.le_refl _, hR⟩ ?_
  rintro n x out ⟨x0, x1, x2, x3⟩
  have hol : out.length ≤ 2000 := by
    have : (out ++ pathL b k w L y n x).length = R.length := by rw [x3]
    rw [List.length_append] at this
    omega
  ((conv=>whnf);repeat((first|refine Ct ‹_› ?_|refine Cf ‹_› ?_|refine Ct rfl ?_|refine Cf rfl ?_|refine Bi rfl ?_|refine Bz rfl ?_|refine Lr ?_);conv=>whnf))
  refine Cnd_i (fun g => ?_) (fun g => ?_)
  rotate_left
  · have hxy : x = y := by simpa using g
    ((conv=>whnf);repeat((first|refine Ct ‹_› ?_|refine Cf ‹_› ?_|refine Ct rfl ?_|refine Cf rfl ?_|refine Bi rfl ?_|refine Bz rfl ?_|refine Lr ?_);conv=>whnf))
    have e1 : out = R := by rw [← x3, hxy, pathL_end, List.append_nil]
    rw [← e1]
    exact ⟨rfl, rfl, rfl⟩
  have hxy : ¬ x = y := by simpa using g
  obtain ⟨dx, dx6, dxp⟩ := hex x x0 x1 hxy
  have hx00 : L.getD x.toNat 0 ≠ 0 := fun e => hxy (hz x x0 e)
  have hxl := hle x.toNat (by omega)
  ((conv=>whnf);repeat((first|refine Ct ‹_› ?_|refine Cf ‹_› ?_|refine Ct rfl ?_|refine Cf rfl ?_|refine Bi rfl ?_|refine Bz rfl ?_|refine Lr ?_);conv=>whnf))
  refine WLoop_v ⟨[1, 2, 3, 4, 5, 11, 12, 13], [5], []⟩ (fun (d : Int) => hdS 65 [(1, .v (vI k)), (2, .v (vI w)), (3, .v (vI x)), (4, .v (vI y)), (5, .v (.one (.box 5 0))), (11, .v (.one (.own (vkey 11) L.length))), (12, .v (.one (.own (vkey 12) out.length))), (13, .v (vI d))] [(5, b.cs)] [(vkey 11, rwI L), (vkey 12, rwI out)])
    (fun n d => 0 ≤ d ∧ d + n = 6 ∧ ∀ e : Nat, (e : Int) < d → ¬ fdP b k w L x e) 6 0 rfl ⟨by omega, by omega, fun e he => by omega⟩ ?_
  rintro n2 d ⟨d0, d1, d2⟩
  ((conv=>whnf);repeat((first|refine Ct ‹_› ?_|refine Cf ‹_› ?_|refine Ct rfl ?_|refine Cf rfl ?_|refine Bi rfl ?_|refine Bz rfl ?_|refine Lr ?_);conv=>whnf))
  refine Cnd_i (fun g => ?_) (fun g => ?_)
  rotate_left
  · have hd := of_decide_eq_false g
    exact absurd dxp (d2 dx (by omega))
  have hd := of_decide_eq_true g
  have hsb := stepC_b h (i := x) (d := d) k0 w0
  have hno : ¬ fdP b k w L x d → ∀ e : Nat, (e : Int) < d + 1 → ¬ fdP b k w L x e := by
    intro hn e he
    by_cases c : (e : Int) = d
    · rw [c]; exact hn
    · exact d2 e (by omega)
  have hyes : fdP b k w L x d → (0 ≤ nx b.m x d ∧ nx b.m x d < b.m.ter.length) ∧ 0 ≤ L.getD (nx b.m x d).toNat 0 ∧ n ≠ 0 ∧ (L.getD (nx b.m x d).toNat 0).toNat ≤ n - 1 ∧ (out ++ [d]) ++ pathL b k w L y (n - 1) (nx b.m x d) = R := by
    intro hp
    have hp1 : stepC b k x d w ≠ 0 := hp.1
    have hp2 := hp.2.1
    have hp3 := hp.2.2
    obtain ⟨n', rfl⟩ : ∃ n', n = n' + 1 := ⟨n - 1, by omega⟩
    refine ⟨hsb.2.2 hp1, hp2, by omega, by rw [Nat.add_sub_cancel]; omega, ?_⟩
    rw [← x3, pathL, if_neg hxy, fdir_eq d0 (by omega) hp d2, Nat.add_sub_cancel, List.append_assoc]; rfl
  ((conv=>whnf);repeat((first|refine Ct ‹_› ?_|refine Cf ‹_› ?_|refine Ct rfl ?_|refine Cf rfl ?_|refine Bi rfl ?_|refine Bz rfl ?_|refine Lr ?_);conv=>whnf))
  (refine CallQ_some (F_cStep b h k x d w k0.1 k0.2 x0.1 x0.2 d0 (by omega) w0.1 w0.2) ?_ ?_ ?_; rfl; rfl); ((conv=>whnf);repeat((first|refine Ct ‹_› ?_|refine Cf ‹_› ?_|refine Ct rfl ?_|refine Cf rfl ?_|refine Bi rfl ?_|refine Bz rfl ?_|refine Lr ?_);conv=>whnf))
  refine Cnd_i (fun g => ?_) (fun g => ?_)
  · have e2 : stepC b k x d w = 0 := by simpa using g
    ((conv=>whnf);repeat((first|refine Ct ‹_› ?_|refine Cf ‹_› ?_|refine Ct rfl ?_|refine Cf rfl ?_|refine Bi rfl ?_|refine Bz rfl ?_|refine Lr ?_);conv=>whnf))
    refine ⟨n2 - 1, d + 1, ?_, by omega, by omega, by omega, hno (fun hh => hh.1 e2)⟩
    rw [wrapI (n := d + 1) (by omega)]; rfl
  have e2 : stepC b k x d w ≠ 0 := by simpa using g
  have hnx := hsb.2.2 e2
  ((conv=>whnf);repeat((first|refine Ct ‹_› ?_|refine Cf ‹_› ?_|refine Ct rfl ?_|refine Cf rfl ?_|refine Bi rfl ?_|refine Bz rfl ?_|refine Lr ?_);conv=>whnf))
  (refine CallQ_some (F_mNext b.m h.wh x d x0.1 (by omega) d0 (by omega)) ?_ ?_ ?_; rfl; rfl); ((conv=>whnf);repeat((first|refine Ct ‹_› ?_|refine Cf ‹_› ?_|refine Ct rfl ?_|refine Cf rfl ?_|refine Bi rfl ?_|refine Bz rfl ?_|refine Lr ?_);conv=>whnf))
  refine Bnd_i (⟨hnx.1, by omega⟩) ?_; ((conv=>whnf);repeat((first|refine Ct ‹_› ?_|refine Cf ‹_› ?_|refine Ct rfl ?_|refine Cf rfl ?_|refine Bi rfl ?_|refine Bz rfl ?_|refine Lr ?_);conv=>whnf))
  refine Cnd_i (fun g => ?_) (fun g => ?_)
  rotate_left
  · have g5' := of_decide_eq_false g
    ((conv=>whnf);repeat((first|refine Ct ‹_› ?_|refine Cf ‹_› ?_|refine Ct rfl ?_|refine Cf rfl ?_|refine Bi rfl ?_|refine Bz rfl ?_|refine Lr ?_);conv=>whnf))
    refine ⟨n2 - 1, d + 1, ?_, by omega, by omega, by omega, hno (fun hh => g5' hh.2.1)⟩
    rw [wrapI (n := d + 1) (by omega)]; rfl
  have g5' : 0 ≤ L.getD (nx b.m x d).toNat 0 := of_decide_eq_true g
  have hl2 := hle (nx b.m x d).toNat (by omega)
  ((conv=>whnf);repeat((first|refine Ct ‹_› ?_|refine Cf ‹_› ?_|refine Ct rfl ?_|refine Cf rfl ?_|refine Bi rfl ?_|refine Bz rfl ?_|refine Lr ?_);conv=>whnf))
  refine Bnd_i (⟨hnx.1, by omega⟩) ?_; ((conv=>whnf);repeat((first|refine Ct ‹_› ?_|refine Cf ‹_› ?_|refine Ct rfl ?_|refine Cf rfl ?_|refine Bi rfl ?_|refine Bz rfl ?_|refine Lr ?_);conv=>whnf))
  refine Bnd_i (⟨x0.1, by omega⟩) ?_; ((conv=>whnf);repeat((first|refine Ct ‹_› ?_|refine Cf ‹_› ?_|refine Ct rfl ?_|refine Cf rfl ?_|refine Bi rfl ?_|refine Bz rfl ?_|refine Lr ?_);conv=>whnf))
  have hc : (IntKind.i64.wrap (L.getD (nx b.m x d).toNat 0 + stepC b k x d w) == L.getD x.toNat 0) = decide (L.getD (nx b.m x d).toNat 0 + stepC b k x d w = L.getD x.toNat 0) := by rw [wrapI (by omega)]; rfl
  refine Cnd_i (fun g => ?_) (fun g => ?_)
  rotate_left
  · have g6' := of_decide_eq_false (hc.symm.trans g)
    ((conv=>whnf);repeat((first|refine Ct ‹_› ?_|refine Cf ‹_› ?_|refine Ct rfl ?_|refine Cf rfl ?_|refine Bi rfl ?_|refine Bz rfl ?_|refine Lr ?_);conv=>whnf))
    refine ⟨n2 - 1, d + 1, ?_, by omega, by omega, by omega, hno (fun hh => g6' hh.2.2)⟩
    rw [wrapI (n := d + 1) (by omega)]; rfl
  have g6' := of_decide_eq_true (hc.symm.trans g)
  obtain ⟨y1, y2, y3, y4, y5⟩ := hyes ⟨e2, g5', g6'⟩
  ((conv=>whnf);repeat((first|refine Ct ‹_› ?_|refine Cf ‹_› ?_|refine Ct rfl ?_|refine Cf rfl ?_|refine Bi rfl ?_|refine Bz rfl ?_|refine Lr ?_);conv=>whnf))
  refine Rw_self ?_
  ((conv=>whnf);repeat((first|refine Ct ‹_› ?_|refine Cf ‹_› ?_|refine Ct rfl ?_|refine Cf rfl ?_|refine Bi rfl ?_|refine Bz rfl ?_|refine Lr ?_);conv=>whnf))
  refine Bnd_i ?_ ?_
  · show out.length + 1 < _
    omega
  ((conv=>whnf);repeat((first|refine Ct ‹_› ?_|refine Cf ‹_› ?_|refine Ct rfl ?_|refine Cf rfl ?_|refine Bi rfl ?_|refine Bz rfl ?_|refine Lr ?_);conv=>whnf))
  refine Rw_i (rwI (out ++ [d])) (rwI_app _ _ _ rfl) ?_
  ((conv=>whnf);repeat((first|refine Ct ‹_› ?_|refine Cf ‹_› ?_|refine Ct rfl ?_|refine Cf rfl ?_|refine Bi rfl ?_|refine Bz rfl ?_|refine Lr ?_);conv=>whnf))
  exact ⟨n - 1, nx b.m x d, out ++ [d], rfl, by omega, y1, y2, y4, y5⟩

theorem F_CheapestPath (b : Brd) (ho : b.Ok) (k w i y : Int) :
    Fun E0 5 [.agg b.cs, vI k, vI w, vI i, vI y] [] (.tup [.one (.own 0 (cpR b k w i y).1.length), vB (cpR b k w i y).2]) [(0, rwI (cpR b k w i y).1)] [] := by
  refine Fun_of_xc k5 rfl rfl (nrC (rwI_no _) nrN) ?_
  ((conv=>whnf);repeat((first|refine Ct ‹_› ?_|refine Cf ‹_› ?_|refine Ct rfl ?_|refine Cf rfl ?_|refine Bi rfl ?_|refine Bz rfl ?_|refine Lr ?_);conv=>whnf))
  refine Rw_i (rwI []) (rwI_nil _) ?_
  ((conv=>whnf);repeat((first|refine Ct ‹_› ?_|refine Cf ‹_› ?_|refine Ct rfl ?_|refine Cf rfl ?_|refine Bi rfl ?_|refine Bz rfl ?_|refine Lr ?_);conv=>whnf))
  (refine CallQ_some (F_pAsked b ho k w i) ?_ ?_ ?_; rfl; rfl); ((conv=>whnf);repeat((first|refine Ct ‹_› ?_|refine Cf ‹_› ?_|refine Ct rfl ?_|refine Cf rfl ?_|refine Bi rfl ?_|refine Bz rfl ?_|refine Lr ?_);conv=>whnf))
  refine Cnd_i (fun g => ?_) (fun g => ?_)
  · have e0 : okIn b k w i = false := by simpa using g
    ((conv=>whnf);repeat((first|refine Ct ‹_› ?_|refine Cf ‹_› ?_|refine Ct rfl ?_|refine Cf rfl ?_|refine Bi rfl ?_|refine Bz rfl ?_|refine Lr ?_);conv=>whnf))
    refine Rw_i (rwI []) (rwI_nil _) ?_
    ((conv=>whnf);repeat((first|refine Ct ‹_› ?_|refine Cf ‹_› ?_|refine Ct rfl ?_|refine Cf rfl ?_|refine Bi rfl ?_|refine Bz rfl ?_|refine Lr ?_);conv=>whnf))
    rw [cpR, okTr, e0]
    exact ⟨rfl, rfl, rfl⟩
  have e1 : okIn b k w i = true := by simpa using g
  ((conv=>whnf);repeat((first|refine Ct ‹_› ?_|refine Cf ‹_› ?_|refine Ct rfl ?_|refine Cf rfl ?_|refine Bi rfl ?_|refine Bz rfl ?_|refine Lr ?_);conv=>whnf))
  (refine CallQ_some (F_pAsked b ho k w y) ?_ ?_ ?_; rfl; rfl); ((conv=>whnf);repeat((first|refine Ct ‹_› ?_|refine Cf ‹_› ?_|refine Ct rfl ?_|refine Cf rfl ?_|refine Bi rfl ?_|refine Bz rfl ?_|refine Lr ?_);conv=>whnf))
  refine Cnd_i (fun g => ?_) (fun g => ?_)
  · have e0 : okIn b k w y = false := by simpa using g
    ((conv=>whnf);repeat((first|refine Ct ‹_› ?_|refine Cf ‹_› ?_|refine Ct rfl ?_|refine Cf rfl ?_|refine Bi rfl ?_|refine Bz rfl ?_|refine Lr ?_);conv=>whnf))
    refine Rw_i (rwI []) (rwI_nil _) ?_
    ((conv=>whnf);repeat((first|refine Ct ‹_› ?_|refine Cf ‹_› ?_|refine Ct rfl ?_|refine Cf rfl ?_|refine Bi rfl ?_|refine Bz rfl ?_|refine Lr ?_);conv=>whnf))
    rw [cpR, okTr, e1, e0]
    exact ⟨rfl, rfl, rfl⟩
  have e2 : okIn b k w y = true := by simpa using g
  have e0 : okTr b k w i y = true := by rw [okTr, e1, e2]; rfl
  obtain ⟨hi, hx⟩ := TrOk ho e0
  have hm := hi.gb.wh.mul
  have hn := hi.gb.n
  have hlen := dL_len hi.gb hi.k hi.w hi.i [] false
  have hbk := (dL_ok hi.gb hi.k hi.w hi.i [] false).back (dL_ok hi.gb hi.k hi.w hx [] true) hi.i hx
  ((conv=>whnf);repeat((first|refine Ct ‹_› ?_|refine Cf ‹_› ?_|refine Ct rfl ?_|refine Cf rfl ?_|refine Bi rfl ?_|refine Bz rfl ?_|refine Lr ?_);conv=>whnf))
  (refine CallQ_some (F_pFrom0 b hi.gb k w i hi.k hi.w hi.i) ?_ ?_ ?_; rfl; rfl); ((conv=>whnf);repeat((first|refine Ct ‹_› ?_|refine Cf ‹_› ?_|refine Ct rfl ?_|refine Cf rfl ?_|refine Bi rfl ?_|refine Bz rfl ?_|refine Lr ?_);conv=>whnf))
  refine Bnd_i (⟨hx.1, by omega⟩) ?_; ((conv=>whnf);repeat((first|refine Ct ‹_› ?_|refine Cf ‹_› ?_|refine Ct rfl ?_|refine Cf rfl ?_|refine Bi rfl ?_|refine Bz rfl ?_|refine Lr ?_);conv=>whnf))
  refine Cnd_i (fun g => ?_) (fun g => ?_)
  · ((conv=>whnf);repeat((first|refine Ct ‹_› ?_|refine Cf ‹_› ?_|refine Ct rfl ?_|refine Cf rfl ?_|refine Bi rfl ?_|refine Bz rfl ?_|refine Lr ?_);conv=>whnf))
    refine Rw_i (rwI []) (rwI_nil _) ?_
    ((conv=>whnf);repeat((first|refine Ct ‹_› ?_|refine Cf ‹_› ?_|refine Ct rfl ?_|refine Cf rfl ?_|refine Bi rfl ?_|refine Bz rfl ?_|refine Lr ?_);conv=>whnf))
    rw [cpR, e0, if_pos rfl, if_pos (by rw [← hbk]; exact g)]
    exact ⟨rfl, rfl, rfl⟩
  · have g' := of_decide_eq_false g
    ((conv=>whnf);repeat((first|refine Ct ‹_› ?_|refine Cf ‹_› ?_|refine Ct rfl ?_|refine Cf rfl ?_|refine Bi rfl ?_|refine Bz rfl ?_|refine Lr ?_);conv=>whnf))
    (refine CallQ_some (F_pPath b hi.gb k w i y hi.k hi.w hi.i hx (by omega)) ?_ ?_ ?_; rfl; rfl); ((conv=>whnf);repeat((first|refine Ct ‹_› ?_|refine Cf ‹_› ?_|refine Ct rfl ?_|refine Cf rfl ?_|refine Bi rfl ?_|refine Bz rfl ?_|refine Lr ?_);conv=>whnf))
    rw [cpR, e0, if_pos rfl, if_neg (by rw [← hbk, g]; simp)]
    exact ⟨rfl, rfl, rfl⟩

theorem F_CheapestPathI (b : Brd) (ho : b.Ok) (k w i y : Int) :
    Fun E0 7 [.agg b.cs, vI k, vI w, vI i, vI y] [] (.tup [.one (.own 0 (cpR b k w i y).1.length), vB (cpR b k w i y).2]) [(0, rwI (cpR b k w i y).1)] [] := by
  refine Fun_of_xc k7 rfl rfl (nrC (rwI_no _) nrN) ?_
  ((conv=>whnf);repeat((first|refine Ct ‹_› ?_|refine Cf ‹_› ?_|refine Ct rfl ?_|refine Cf rfl ?_|refine Bi rfl ?_|refine Bz rfl ?_|refine Lr ?_);conv=>whnf))
  refine Rw_i (rwI []) (rwI_nil _) ?_
  ((conv=>whnf);repeat((first|refine Ct ‹_› ?_|refine Cf ‹_› ?_|refine Ct rfl ?_|refine Cf rfl ?_|refine Bi rfl ?_|refine Bz rfl ?_|refine Lr ?_);conv=>whnf))
  (refine CallQ_some (F_isTrip b ho k w i y) ?_ ?_ ?_; rfl; rfl); ((conv=>whnf);repeat((first|refine Ct ‹_› ?_|refine Cf ‹_› ?_|refine Ct rfl ?_|refine Cf rfl ?_|refine Bi rfl ?_|refine Bz rfl ?_|refine Lr ?_);conv=>whnf))
  refine Cnd_i (fun g => ?_) (fun g => ?_)
  · have e0 : okTr b k w i y = false := by simpa using g
    ((conv=>whnf);repeat((first|refine Ct ‹_› ?_|refine Cf ‹_› ?_|refine Ct rfl ?_|refine Cf rfl ?_|refine Bi rfl ?_|refine Bz rfl ?_|refine Lr ?_);conv=>whnf))
    refine Rw_i (rwI []) (rwI_nil _) ?_
    ((conv=>whnf);repeat((first|refine Ct ‹_› ?_|refine Cf ‹_› ?_|refine Ct rfl ?_|refine Cf rfl ?_|refine Bi rfl ?_|refine Bz rfl ?_|refine Lr ?_);conv=>whnf))
    rw [cpR, e0]
    exact ⟨rfl, rfl, rfl⟩
  have e0 : okTr b k w i y = true := by simpa using g
  obtain ⟨hi, y0⟩ := TrOk ho e0
  have h := hi.gb
  have k0 := hi.k
  have w0 := hi.w
  have i0 := hi.i
  have hm := h.wh.mul
  have hn := h.n
  have hlen := dL_len h k0 w0 y0 [] true
  have hle := dL_le h k0 w0 y0 [] true
  have hz := fun x x0 hx => dL_z h k0 w0 y0 (x := x) x0 hx
  have hex := fun x x0 hx hne => fd_ex h k0 w0 y0 (x := x) x0 hx hne
  have hRl := cpL_len h k0 w0 y0 i0
  ((conv=>whnf);repeat((first|refine Ct ‹_› ?_|refine Cf ‹_› ?_|refine Ct rfl ?_|refine Cf rfl ?_|refine Bi rfl ?_|refine Bz rfl ?_|refine Lr ?_);conv=>whnf))
  (refine CallQ_some (F_relaxed0 b h k w y true k0 w0 y0) ?_ ?_ ?_; rfl; rfl); ((conv=>whnf);repeat((first|refine Ct ‹_› ?_|refine Cf ‹_› ?_|refine Ct rfl ?_|refine Cf rfl ?_|refine Bi rfl ?_|refine Bz rfl ?_|refine Lr ?_);conv=>whnf))
  refine Bnd_i (⟨i0.1, by omega⟩) ?_; ((conv=>whnf);repeat((first|refine Ct ‹_› ?_|refine Cf ‹_› ?_|refine Ct rfl ?_|refine Cf rfl ?_|refine Bi rfl ?_|refine Bz rfl ?_|refine Lr ?_);conv=>whnf))
  refine Cnd_i (fun g => ?_) (fun g => ?_)
  · ((conv=>whnf);repeat((first|refine Ct ‹_› ?_|refine Cf ‹_› ?_|refine Ct rfl ?_|refine Cf rfl ?_|refine Bi rfl ?_|refine Bz rfl ?_|refine Lr ?_);conv=>whnf))
    refine Rw_i (rwI []) (rwI_nil _) ?_
    ((conv=>whnf);repeat((first|refine Ct ‹_› ?_|refine Cf ‹_› ?_|refine Ct rfl ?_|refine Cf rfl ?_|refine Bi rfl ?_|refine Bz rfl ?_|refine Lr ?_);conv=>whnf))
    rw [cpR, e0, if_pos rfl, if_pos g]
    exact ⟨rfl, rfl, rfl⟩
  rw [cpR, e0, if_pos rfl, if_neg (by rw [g]; simp)]
  have hLi : 0 ≤ (dL b k w y [] true).getD i.toNat 0 := by have := of_decide_eq_false g; omega
  ((conv=>whnf);repeat((first|refine Ct ‹_› ?_|refine Cf ‹_› ?_|refine Ct rfl ?_|refine Cf rfl ?_|refine Bi rfl ?_|refine Bz rfl ?_|refine Lr ?_);conv=>whnf))
  refine Rw_i (rwI []) (rwI_nil _) ?_
  ((conv=>whnf);repeat((first|refine Ct ‹_› ?_|refine Cf ‹_› ?_|refine Ct rfl ?_|refine Cf rfl ?_|refine Bi rfl ?_|refine Bz rfl ?_|refine Lr ?_);conv=>whnf))
  unfold cpL at *
  generalize hLL : dL b k w y [] true = L at *
  generalize hR : pathL b k w L y (L.getD i.toNat 0).toNat i = R at *
  refine WLoop_v2 ⟨[1, 2, 3, 4, 5, 12, 13], [5], []⟩ (fun (x : Int) (out : List Int) => hdS 81 [(1, .v (vI k)), (2, .v (vI w)), (3, .v (vI x)), (4, .v (vI y)), (5, .v (.one (.box 5 0))), (12, .v (.one (.own (vkey 12) L.length))), (13, .v (.one (.own (vkey 13) out.length)))] [(5, b.cs)] [(vkey 12, rwI L), (vkey 13, rwI out)])
    (fun n x out => (0 ≤ x ∧ x < b.m.ter.length) ∧ 0 ≤ L.getD x.toNat 0 ∧ (L.getD x.toNat 0).toNat ≤ n ∧ out ++ pathL b k w L y n x = R) (L.getD i.toNat 0).toNat i [] rfl ⟨i0, hLi, Nat.le_refl _, hR⟩ ?_
  rintro n x out ⟨x0, x1, x2, x3⟩
  have hol : out.length ≤ 2000 := by
    have : (out ++ pathL b k w L y n x).length = R.length := by rw [x3]
    rw [List.length_append] at this
    omega
  ((conv=>whnf);repeat((first|refine Ct ‹_› ?_|refine Cf ‹_› ?_|refine Ct rfl ?_|refine Cf rfl ?_|refine Bi rfl ?_|refine Bz rfl ?_|refine Lr ?_);conv=>whnf))
  refine Cnd_i (fun g => ?_) (fun g => ?_)
  rotate_left
  · have hxy : x = y := by simpa using g
    ((conv=>whnf);repeat((first|refine Ct ‹_› ?_|refine Cf ‹_› ?_|refine Ct rfl ?_|refine Cf rfl ?_|refine Bi rfl ?_|refine Bz rfl ?_|refine Lr ?_);conv=>whnf))
    have e1 : out = R := by rw [← x3, hxy, pathL_end, List.append_nil]
    rw [← e1]
    exact ⟨rfl, rfl, rfl⟩
  have hxy : ¬ x = y := by simpa using g
  obtain ⟨dx, dx6, dxp⟩ := hex x x0 x1 hxy
  have hx00 : L.getD x.toNat 0 ≠ 0 := fun e => hxy (hz x x0 e)
  have hxl := hle x.toNat (by omega)
  ((conv=>whnf);repeat((first|refine Ct ‹_› ?_|refine Cf ‹_› ?_|refine Ct rfl ?_|refine Cf rfl ?_|refine Bi rfl ?_|refine Bz rfl ?_|refine Lr ?_);conv=>whnf))
  refine WLoop_v ⟨[1, 2, 3, 4, 5, 12, 13, 38], [5], []⟩ (fun (d : Int) => hdS 81 [(1, .v (vI k)), (2, .v (vI w)), (3, .v (vI x)), (4, .v (vI y)), (5, .v (.one (.box 5 0))), (12, .v (.one (.own (vkey 12) L.length))), (13, .v (.one (.own (vkey 13) out.length))), (38, .v (vI d))] [(5, b.cs)] [(vkey 12, rwI L), (vkey 13, rwI out)])
    (fun n d => 0 ≤ d ∧ d + n = 6 ∧ ∀ e : Nat, (e : Int) < d → ¬ fdP b k w L x e) 6 0 rfl ⟨by omega, by omega, fun e he => by omega⟩ ?_
  rintro n2 d ⟨d0, d1, d2⟩
  ((conv=>whnf);repeat((first|refine Ct ‹_› ?_|refine Cf ‹_› ?_|refine Ct rfl ?_|refine Cf rfl ?_|refine Bi rfl ?_|refine Bz rfl ?_|refine Lr ?_);conv=>whnf))
  refine Cnd_i (fun g => ?_) (fun g => ?_)
  rotate_left
  · have hd := of_decide_eq_false g
    exact absurd dxp (d2 dx (by omega))
  have hd := of_decide_eq_true g
  have hsb := stepC_b h (i := x) (d := d) k0 w0
  have hno : ¬ fdP b k w L x d → ∀ e : Nat, (e : Int) < d + 1 → ¬ fdP b k w L x e := by
    intro hn e he
    by_cases c : (e : Int) = d
    · rw [c]; exact hn
    · exact d2 e (by omega)
  have hyes : fdP b k w L x d → (0 ≤ nx b.m x d ∧ nx b.m x d < b.m.ter.length) ∧ 0 ≤ L.getD (nx b.m x d).toNat 0 ∧ n ≠ 0 ∧ (L.getD (nx b.m x d).toNat 0).toNat ≤ n - 1 ∧ (out ++ [d]) ++ pathL b k w L y (n - 1) (nx b.m x d) = R := by
    intro hp
    have hp1 : stepC b k x d w ≠ 0 := hp.1
    have hp2 := hp.2.1
    have hp3 := hp.2.2
    obtain ⟨n', rfl⟩ : ∃ n', n = n' + 1 := ⟨n - 1, by omega⟩
    refine ⟨hsb.2.2 hp1, hp2, by omega, by rw [Nat.add_sub_cancel]; omega, ?_⟩
    rw [← x3, pathL, if_neg hxy, fdir_eq d0 (by omega) hp d2, Nat.add_sub_cancel, List.append_assoc]; rfl
  ((conv=>whnf);repeat((first|refine Ct ‹_› ?_|refine Cf ‹_› ?_|refine Ct rfl ?_|refine Cf rfl ?_|refine Bi rfl ?_|refine Bz rfl ?_|refine Lr ?_);conv=>whnf))
  (refine CallQ_some (F_stepCost b h k x d w k0.1 k0.2 x0.1 x0.2 d0 (by omega) w0.1 w0.2) ?_ ?_ ?_; rfl; rfl); ((conv=>whnf);repeat((first|refine Ct ‹_› ?_|refine Cf ‹_› ?_|refine Ct rfl ?_|refine Cf rfl ?_|refine Bi rfl ?_|refine Bz rfl ?_|refine Lr ?_);conv=>whnf))
  (refine CallQ_some (F_nextTo b.m h.wh x d x0.1 (by omega) d0 (by omega)) ?_ ?_ ?_; rfl; rfl); ((conv=>whnf);repeat((first|refine Ct ‹_› ?_|refine Cf ‹_› ?_|refine Ct rfl ?_|refine Cf rfl ?_|refine Bi rfl ?_|refine Bz rfl ?_|refine Lr ?_);conv=>whnf))
  refine Cnd_i (fun g => ?_) (fun g => ?_)
  rotate_left
  · have e2 := of_decide_eq_false g
    ((conv=>whnf);repeat((first|refine Ct ‹_› ?_|refine Cf ‹_› ?_|refine Ct rfl ?_|refine Cf rfl ?_|refine Bi rfl ?_|refine Bz rfl ?_|refine Lr ?_);conv=>whnf))
    refine ⟨n2 - 1, d + 1, ?_, by omega, by omega, by omega, hno (fun hh => by have h9 : stepC b k x d w ≠ 0 := hh.1; omega)⟩
    rw [wrapI (n := d + 1) (by omega)]; rfl
  have e2 : stepC b k x d w ≠ 0 := by have := of_decide_eq_true g; omega
  have hnx := hsb.2.2 e2
  ((conv=>whnf);repeat((first|refine Ct ‹_› ?_|refine Cf ‹_› ?_|refine Ct rfl ?_|refine Cf rfl ?_|refine Bi rfl ?_|refine Bz rfl ?_|refine Lr ?_);conv=>whnf))
  refine Bnd_i (⟨hnx.1, by omega⟩) ?_; ((conv=>whnf);repeat((first|refine Ct ‹_› ?_|refine Cf ‹_› ?_|refine Ct rfl ?_|refine Cf rfl ?_|refine Bi rfl ?_|refine Bz rfl ?_|refine Lr ?_);conv=>whnf))
  refine Cnd_i (fun g => ?_) (fun g => ?_)
  rotate_left
  · have g5' := of_decide_eq_false g
    ((conv=>whnf);repeat((first|refine Ct ‹_› ?_|refine Cf ‹_› ?_|refine Ct rfl ?_|refine Cf rfl ?_|refine Bi rfl ?_|refine Bz rfl ?_|refine Lr ?_);conv=>whnf))
    refine ⟨n2 - 1, d + 1, ?_, by omega, by omega, by omega, hno (fun hh => g5' hh.2.1)⟩
    rw [wrapI (n := d + 1) (by omega)]; rfl
  have g5' : 0 ≤ L.getD (nx b.m x d).toNat 0 := of_decide_eq_true g
  have hl2 := hle (nx b.m x d).toNat (by omega)
  ((conv=>whnf);repeat((first|refine Ct ‹_› ?_|refine Cf ‹_› ?_|refine Ct rfl ?_|refine Cf rfl ?_|refine Bi rfl ?_|refine Bz rfl ?_|refine Lr ?_);conv=>whnf))
  refine Bnd_i (⟨hnx.1, by omega⟩) ?_; ((conv=>whnf);repeat((first|refine Ct ‹_› ?_|refine Cf ‹_› ?_|refine Ct rfl ?_|refine Cf rfl ?_|refine Bi rfl ?_|refine Bz rfl ?_|refine Lr ?_);conv=>whnf))
  refine Bnd_i (⟨x0.1, by omega⟩) ?_; ((conv=>whnf);repeat((first|refine Ct ‹_› ?_|refine Cf ‹_› ?_|refine Ct rfl ?_|refine Cf rfl ?_|refine Bi rfl ?_|refine Bz rfl ?_|refine Lr ?_);conv=>whnf))
  have hc : (IntKind.i64.wrap (L.getD (nx b.m x d).toNat 0 + stepC b k x d w) == L.getD x.toNat 0) = decide (L.getD (nx b.m x d).toNat 0 + stepC b k x d w = L.getD x.toNat 0) := by rw [wrapI (by omega)]; rfl
  refine Cnd_i (fun g => ?_) (fun g => ?_)
  rotate_left
  · have g6' := of_decide_eq_false (hc.symm.trans g)
    ((conv=>whnf);repeat((first|refine Ct ‹_› ?_|refine Cf ‹_› ?_|refine Ct rfl ?_|refine Cf rfl ?_|refine Bi rfl ?_|refine Bz rfl ?_|refine Lr ?_);conv=>whnf))
    refine ⟨n2 - 1, d + 1, ?_, by omega, by omega, by omega, hno (fun hh => g6' hh.2.2)⟩
    rw [wrapI (n := d + 1) (by omega)]; rfl
  have g6' := of_decide_eq_true (hc.symm.trans g)
  obtain ⟨y1, y2, y3, y4, y5⟩ := hyes ⟨e2, g5', g6'⟩
  ((conv=>whnf);repeat((first|refine Ct ‹_› ?_|refine Cf ‹_› ?_|refine Ct rfl ?_|refine Cf rfl ?_|refine Bi rfl ?_|refine Bz rfl ?_|refine Lr ?_);conv=>whnf))
  refine Rw_self ?_
  ((conv=>whnf);repeat((first|refine Ct ‹_› ?_|refine Cf ‹_› ?_|refine Ct rfl ?_|refine Cf rfl ?_|refine Bi rfl ?_|refine Bz rfl ?_|refine Lr ?_);conv=>whnf))
  refine Bnd_i ?_ ?_
  · show out.length + 1 < _
    omega
  ((conv=>whnf);repeat((first|refine Ct ‹_› ?_|refine Cf ‹_› ?_|refine Ct rfl ?_|refine Cf rfl ?_|refine Bi rfl ?_|refine Bz rfl ?_|refine Lr ?_);conv=>whnf))
  refine Rw_i (rwI (out ++ [d])) (rwI_app _ _ _ rfl) ?_
  ((conv=>whnf);repeat((first|refine Ct ‹_› ?_|refine Cf ‹_› ?_|refine Ct rfl ?_|refine Cf rfl ?_|refine Bi rfl ?_|refine Bz rfl ?_|refine Lr ?_);conv=>whnf))
  exact ⟨n - 1, nx b.m x d, out ++ [d], rfl, by omega, y1, y2, y4, y5⟩

theorem F_FnExactCheapestPath (x0 : Brd) (x1 : Int) (x2 : Int) (x3 : Int) (x4 : Int) (o0 : x0.Ok) (o1 : i64 x1) (o2 : i64 x2) (o3 : i64 x3) (o4 : i64 x4) :
    Fun E0 3 [.agg x0.cs, vI x1, vI x2, vI x3, vI x4] [] (.v (vB true)) [] [] := by
  have hS := F_CheapestPath x0 o0 x1 x2 x3 x4
  have hI := F_CheapestPathI x0 o0 x1 x2 x3 x4
  have hr0 : (cpR x0 x1 x2 x3 x4).1.length ≤ 1048576 := cpR_len x0 o0 x1 x2 x3 x4
  revert hS hI hr0
  generalize cpR x0 x1 x2 x3 x4 = RR
  obtain ⟨r0, r1⟩ := RR
  intro hS hI hr0
  dsimp only at hS
  dsimp only at hI
  dsimp only at hr0
  refine Fun_of_xc k3 rfl rfl (fun k q h => by cases h) ?_
  ((conv=>whnf);repeat((first|refine Ct ‹_› ?_|refine Cf ‹_› ?_|refine Ct rfl ?_|refine Cf rfl ?_|refine Bi rfl ?_|refine Bz rfl ?_|refine Lr ?_);conv=>whnf))
  (refine CallQ_some (F_szBoard x0 o0 1048576 (by omega) (by omega)) ?_ ?_ ?_; rfl; rfl); ((conv=>whnf);repeat((first|refine Ct ‹_› ?_|refine Cf ‹_› ?_|refine Ct rfl ?_|refine Cf rfl ?_|refine Bi rfl ?_|refine Bz rfl ?_|refine Lr ?_);conv=>whnf))
  refine Cnd_i (fun g => ?_) (fun g => ?_)
  · ((conv=>whnf);repeat((first|refine Ct ‹_› ?_|refine Cf ‹_› ?_|refine Ct rfl ?_|refine Cf rfl ?_|refine Bi rfl ?_|refine Bz rfl ?_|refine Lr ?_);conv=>whnf))
    exact ⟨rfl, rfl, rfl⟩
  have sm0 := szB_sm (b := x0) (x := 1048576) (by omega) (by omega) (of_decide_eq_false g)
  have s0 := sm0.1
  have sb0 := sm0.2
  have sc0 := of_decide_eq_false g
  ((conv=>whnf);repeat((first|refine Ct ‹_› ?_|refine Cf ‹_› ?_|refine Ct rfl ?_|refine Cf rfl ?_|refine Bi rfl ?_|refine Bz rfl ?_|refine Lr ?_);conv=>whnf))
  (refine CallQ_some (F_toBoard x0 s0) ?_ ?_ ?_; rfl; rfl); ((conv=>whnf);repeat((first|refine Ct ‹_› ?_|refine Cf ‹_› ?_|refine Ct rfl ?_|refine Cf rfl ?_|refine Bi rfl ?_|refine Bz rfl ?_|refine Lr ?_);conv=>whnf))
  refine CallQ_eq (snapB x0 _) ?_
  (refine CallQ_some (hS) ?_ ?_ ?_; rfl; rfl); ((conv=>whnf);repeat((first|refine Ct ‹_› ?_|refine Cf ‹_› ?_|refine Ct rfl ?_|refine Cf rfl ?_|refine Bi rfl ?_|refine Bz rfl ?_|refine Lr ?_);conv=>whnf))
  (refine CallQ_some (F_toBoard x0 s0) ?_ ?_ ?_; rfl; rfl); ((conv=>whnf);repeat((first|refine Ct ‹_› ?_|refine Cf ‹_› ?_|refine Ct rfl ?_|refine Cf rfl ?_|refine Bi rfl ?_|refine Bz rfl ?_|refine Lr ?_);conv=>whnf))
  refine CallQ_eq (snapB x0 _) ?_
  (refine CallQ_some (hI) ?_ ?_ ?_; rfl; rfl); ((conv=>whnf);repeat((first|refine Ct ‹_› ?_|refine Cf ‹_› ?_|refine Ct rfl ?_|refine Cf rfl ?_|refine Bi rfl ?_|refine Bz rfl ?_|refine Lr ?_);conv=>whnf))
  (refine CallQ_some (F_eqIntS r0 hr0) ?_ ?_ ?_; rfl; rfl); ((conv=>whnf);repeat((first|refine Ct ‹_› ?_|refine Cf ‹_› ?_|refine Ct rfl ?_|refine Cf rfl ?_|refine Bi rfl ?_|refine Bz rfl ?_|refine Lr ?_);conv=>whnf))
  repeat (refine Cnd_f (by simp) ?_; ((conv=>whnf);repeat((first|refine Ct ‹_› ?_|refine Cf ‹_› ?_|refine Ct rfl ?_|refine Cf rfl ?_|refine Bi rfl ?_|refine Bz rfl ?_|refine Lr ?_);conv=>whnf)))
  repeat (refine Cnd_f (by simp) ?_; ((conv=>whnf);repeat((first|refine Ct ‹_› ?_|refine Cf ‹_› ?_|refine Ct rfl ?_|refine Cf rfl ?_|refine Bi rfl ?_|refine Bz rfl ?_|refine Lr ?_);conv=>whnf)))
  (refine CallQ_some (F_toBoard x0 s0) ?_ ?_ ?_; rfl; rfl); ((conv=>whnf);repeat((first|refine Ct ‹_› ?_|refine Cf ‹_› ?_|refine Ct rfl ?_|refine Cf rfl ?_|refine Bi rfl ?_|refine Bz rfl ?_|refine Lr ?_);conv=>whnf))
  refine CallQ_eq (snapBB x0) ?_
  (refine CallQ_some (F_eqBoard x0 s0) ?_ ?_ ?_; rfl; rfl); ((conv=>whnf);repeat((first|refine Ct ‹_› ?_|refine Cf ‹_› ?_|refine Ct rfl ?_|refine Cf rfl ?_|refine Bi rfl ?_|refine Bz rfl ?_|refine Lr ?_);conv=>whnf))
  refine CallR_e (F_markBoard x0 s0 1 (by omega) (by omega)) ?_
  rintro _ _ o' ⟨k0, ka0, kb0, rfl, rfl, hs⟩
  obtain ⟨⟨_, q0⟩, ⟨_, q1⟩, ⟨_, q2⟩, ⟨_, q3⟩, ⟨_, q4⟩, rfl, ⟨⟩, ⟨⟩, ⟨⟩, ⟨⟩, ⟨⟩, t0, t1, t2, t3, t4⟩ := shape5 hs
  refine ⟨⟨rfl, t0.1, t0.2.1, t0.2.2, rfl, t1.1, t1.2.1, t1.2.2, rfl, t2.1, t2.2.1, t2.2.2, rfl, t3.1, t3.2.1, t3.2.2, rfl, t4.1, t4.2.1, t4.2.2, trivial⟩, rfl, rfl, ?_⟩
  conv => whnf
  refine ⟨rfl, ?_⟩
  ((conv=>whnf);repeat((first|refine Ct ‹_› ?_|refine Cf ‹_› ?_|refine Ct rfl ?_|refine Cf rfl ?_|refine Bi rfl ?_|refine Bz rfl ?_|refine Lr ?_);conv=>whnf))
  have hkn : decide ((k0 : Int) < 0) = false := decide_eq_false (by omega)
  ((conv=>whnf);repeat((first|refine Ct ‹_› ?_|refine Cf ‹_› ?_|refine Ct rfl ?_|refine Cf rfl ?_|refine Bi rfl ?_|refine Bz rfl ?_|refine Lr ?_);conv=>whnf))
  (refine CallQ_some (F_eqIntS r0 hr0) ?_ ?_ ?_; rfl; rfl); ((conv=>whnf);repeat((first|refine Ct ‹_› ?_|refine Cf ‹_› ?_|refine Ct rfl ?_|refine Cf rfl ?_|refine Bi rfl ?_|refine Bz rfl ?_|refine Lr ?_);conv=>whnf))
  repeat (refine Cnd_f (by simp) ?_; ((conv=>whnf);repeat((first|refine Ct ‹_› ?_|refine Cf ‹_› ?_|refine Ct rfl ?_|refine Cf rfl ?_|refine Bi rfl ?_|refine Bz rfl ?_|refine Lr ?_);conv=>whnf)))
  repeat (refine Cnd_f (by simp) ?_; ((conv=>whnf);repeat((first|refine Ct ‹_› ?_|refine Cf ‹_› ?_|refine Ct rfl ?_|refine Cf rfl ?_|refine Bi rfl ?_|refine Bz rfl ?_|refine Lr ?_);conv=>whnf)))
  (refine CallR_some (F_markIntS r0 1 hr0 (by omega) (by omega)) (by repeat (first | exact trivial | refine ⟨rfl, rfl, rfl, rfl, ?_⟩)) ?_ ?_ ?_ ?_; rfl; rfl; rfl); ((conv=>whnf);repeat((first|refine Ct ‹_› ?_|refine Cf ‹_› ?_|refine Ct rfl ?_|refine Cf rfl ?_|refine Bi rfl ?_|refine Bz rfl ?_|refine Lr ?_);conv=>whnf))
  (refine CallQ_some (F_heldIntS 1 r0.length hr0 (by omega) (by omega)) ?_ ?_ ?_; rfl; rfl); ((conv=>whnf);repeat((first|refine Ct ‹_› ?_|refine Cf ‹_› ?_|refine Ct rfl ?_|refine Cf rfl ?_|refine Bi rfl ?_|refine Bz rfl ?_|refine Lr ?_);conv=>whnf))
  have hq0 : decide (1 + (r0.length : Int) < 0) = false := decide_eq_false (by omega)
  ((conv=>whnf);repeat((first|refine Ct ‹_› ?_|refine Cf ‹_› ?_|refine Ct rfl ?_|refine Cf rfl ?_|refine Bi rfl ?_|refine Bz rfl ?_|refine Lr ?_);conv=>whnf))
  repeat (refine Cnd_f (by simp) ?_; ((conv=>whnf);repeat((first|refine Ct ‹_› ?_|refine Cf ‹_› ?_|refine Ct rfl ?_|refine Cf rfl ?_|refine Bi rfl ?_|refine Bz rfl ?_|refine Lr ?_);conv=>whnf)))
  (refine CallQ_some (F_toBoard x0 s0) ?_ ?_ ?_; rfl; rfl); ((conv=>whnf);repeat((first|refine Ct ‹_› ?_|refine Cf ‹_› ?_|refine Ct rfl ?_|refine Cf rfl ?_|refine Bi rfl ?_|refine Bz rfl ?_|refine Lr ?_);conv=>whnf))
  refine CallQ_eq (snapB x0 _) ?_
  (refine CallQ_some (hI) ?_ ?_ ?_; rfl; rfl); ((conv=>whnf);repeat((first|refine Ct ‹_› ?_|refine Cf ‹_› ?_|refine Ct rfl ?_|refine Cf rfl ?_|refine Bi rfl ?_|refine Bz rfl ?_|refine Lr ?_);conv=>whnf))
  (refine CallQ_some (F_eqIntS r0 hr0) ?_ ?_ ?_; rfl; rfl); ((conv=>whnf);repeat((first|refine Ct ‹_› ?_|refine Cf ‹_› ?_|refine Ct rfl ?_|refine Cf rfl ?_|refine Bi rfl ?_|refine Bz rfl ?_|refine Lr ?_);conv=>whnf))
  repeat (refine Cnd_f (by simp) ?_; ((conv=>whnf);repeat((first|refine Ct ‹_› ?_|refine Cf ‹_› ?_|refine Ct rfl ?_|refine Cf rfl ?_|refine Bi rfl ?_|refine Bz rfl ?_|refine Lr ?_);conv=>whnf)))
  repeat (refine Cnd_f (by simp) ?_; ((conv=>whnf);repeat((first|refine Ct ‹_› ?_|refine Cf ‹_› ?_|refine Ct rfl ?_|refine Cf rfl ?_|refine Bi rfl ?_|refine Bz rfl ?_|refine Lr ?_);conv=>whnf)))
  (refine CallQ_some (F_heldIntS 1 r0.length hr0 (by omega) (by omega)) ?_ ?_ ?_; rfl; rfl); ((conv=>whnf);repeat((first|refine Ct ‹_› ?_|refine Cf ‹_› ?_|refine Ct rfl ?_|refine Cf rfl ?_|refine Bi rfl ?_|refine Bz rfl ?_|refine Lr ?_);conv=>whnf))
  repeat (refine Cnd_f (by simp) ?_; ((conv=>whnf);repeat((first|refine Ct ‹_› ?_|refine Cf ‹_› ?_|refine Ct rfl ?_|refine Cf rfl ?_|refine Bi rfl ?_|refine Bz rfl ?_|refine Lr ?_);conv=>whnf)))
  exact ⟨rfl, rfl, rfl⟩
end Go.Proofs.YtkflmicnfjfmiaaDoor.Ab
