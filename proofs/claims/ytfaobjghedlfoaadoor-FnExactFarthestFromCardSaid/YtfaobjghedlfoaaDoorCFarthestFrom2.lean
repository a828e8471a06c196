/- Contracts of the functions that FnExactFarthestFrom reaches, by the abstract machine (part 2).
   Conditions: none. -/
import Derived.Test.YtfaobjghedlfoaaDoorCFarthestFrom1
set_option linter.unusedVariables false
set_option linter.unusedSimpArgs false
namespace Go.Proofs.YtfaobjghedlfoaaDoor.Ab
open Go Go.RowKit
attribute [local irreducible] Cnd Bnd Rw CallQ CallR Bts Isn Lc WLoop
set_option maxRecDepth 100000
set_option maxHeartbeats 1000000
theorem F_relaxed (b : Brd) (h : GB b) (k w i : Int) (bk : Bool) (av : List Int) (k0 : 0 ≤ k ∧ k < b.r.knd.length) (w0 : 0 ≤ w ∧ w ≤ 2) (i0 : 0 ≤ i ∧ i < b.m.ter.length) (hav : av.length ≤ maxLen) :
    Fun E0 51 [.agg b.cs, vI k, vI w, vI i, vB bk, .one (roI av)] [] (.v (.one (.own 0 (dL b k w i av bk).length))) [(0, rwI (dL b k w i av bk))] [] := by
  have hm := h.wh.mul
  have hn := h.n
  have he := eok_s h k0 w0 av bk
  have hM : (0 : Int) + 20 * (b.m.ter.length : Int) + 20 < ((4000 : Nat) : Int) := by omega
  refine Fun_of_xc k51 rfl rfl (nrC (rwI_no _) nrN) ?_
  ((conv=>whnf);repeat((first|refine Ct ‹_› ?_|refine Cf ‹_› ?_|refine Ct rfl ?_|refine Cf rfl ?_|refine Bi rfl ?_|refine Bz rfl ?_|refine Lr ?_);conv=>whnf))
  refine Rw_i (rwI []) (rwI_nil _) ?_
  ((conv=>whnf);repeat((first|refine Ct ‹_› ?_|refine Cf ‹_› ?_|refine Ct rfl ?_|refine Cf rfl ?_|refine Bi rfl ?_|refine Bz rfl ?_|refine Lr ?_);conv=>whnf))
  (refine CallQ_some (F_sizeOf b) ?_ ?_ ?_; rfl; rfl); ((conv=>whnf);repeat((first|refine Ct ‹_› ?_|refine Cf ‹_› ?_|refine Ct rfl ?_|refine Cf rfl ?_|refine Bi rfl ?_|refine Bz rfl ?_|refine Lr ?_);conv=>whnf))
  refine Bnd_i (by omega) ?_
  ((conv=>whnf);repeat((first|refine Ct ‹_› ?_|refine Cf ‹_› ?_|refine Ct rfl ?_|refine Cf rfl ?_|refine Bi rfl ?_|refine Bz rfl ?_|refine Lr ?_);conv=>whnf))
  refine Rw_i (rwIn b.m.ter.length (List.replicate b.m.ter.length 0)) (rwIn_zero _) ?_
  ((conv=>whnf);repeat((first|refine Ct ‹_› ?_|refine Cf ‹_› ?_|refine Ct rfl ?_|refine Cf rfl ?_|refine Bi rfl ?_|refine Bz rfl ?_|refine Lr ?_);conv=>whnf))
  refine WLoop_v2 ⟨[1, 2, 3, 4, 5, 6, 13, 25, 26], [6], []⟩ (fun (t : Int) (L : List Int) => hdS 102 [(1, .v (vI k)), (2, .v (vI w)), (3, .v (vI i)), (4, .v (vB bk)), (5, .v (.one (roI av))), (6, .v (.one (.box 6 0))), (13, .v (.one (.own (vkey 13) b.m.ter.length))), (25, .v (vI b.m.ter.length)), (26, .v (vI t))] [(6, b.cs)] [(vkey 13, rwIn b.m.ter.length L)])
    (fun n t L => 0 ≤ t ∧ t + n = b.m.ter.length ∧ L.length = b.m.ter.length ∧ ∀ j : Nat, (j : Int) < t → L.getD j 0 = -1) b.m.ter.length 0 (List.replicate b.m.ter.length 0) rfl ⟨by omega, by omega, by simp, fun j hj => by omega⟩ ?_
  rintro n t L ⟨h1, h2, hlen, h3⟩
  ((conv=>whnf);repeat((first|refine Ct ‹_› ?_|refine Cf ‹_› ?_|refine Ct rfl ?_|refine Cf rfl ?_|refine Bi rfl ?_|refine Bz rfl ?_|refine Lr ?_);conv=>whnf))
  refine Cnd_i (fun g => ?_) (fun g => ?_)
  · have ht := of_decide_eq_true g
    ((conv=>whnf);repeat((first|refine Ct ‹_› ?_|refine Cf ‹_› ?_|refine Ct rfl ?_|refine Cf rfl ?_|refine Bi rfl ?_|refine Bz rfl ?_|refine Lr ?_);conv=>whnf))
    refine Bnd_i (⟨h1, ht⟩) ?_; ((conv=>whnf);repeat((first|refine Ct ‹_› ?_|refine Cf ‹_› ?_|refine Ct rfl ?_|refine Cf rfl ?_|refine Bi rfl ?_|refine Bz rfl ?_|refine Lr ?_);conv=>whnf))
    refine Rw_i (rwIn b.m.ter.length (L.set t.toNat (-1))) (rwIn_set _ _ _ _ (by omega)) ?_
    ((conv=>whnf);repeat((first|refine Ct ‹_› ?_|refine Cf ‹_› ?_|refine Ct rfl ?_|refine Cf rfl ?_|refine Bi rfl ?_|refine Bz rfl ?_|refine Lr ?_);conv=>whnf))
    refine ⟨n - 1, t + 1, L.set t.toNat (-1), ?_, by omega, by omega, by omega, by simp [hlen], fun j hj => ?_⟩
    · rw [wrapI (by omega)]; rfl
    · rw [getD_set _ _ _ _ (by omega)]
      split
      · rfl
      · exact h3 j (by omega)
  have ht := of_decide_eq_false g
  have hL := all_neg1 hlen (fun j hj => h3 j (by omega))
  subst hL
  clear h1 h2 h3 hlen g ht
  ((conv=>whnf);repeat((first|refine Ct ‹_› ?_|refine Cf ‹_› ?_|refine Ct rfl ?_|refine Cf rfl ?_|refine Bi rfl ?_|refine Bz rfl ?_|refine Lr ?_);conv=>whnf))
  refine Bnd_i (⟨i0.1, i0.2⟩) ?_; ((conv=>whnf);repeat((first|refine Ct ‹_› ?_|refine Cf ‹_› ?_|refine Ct rfl ?_|refine Cf rfl ?_|refine Bi rfl ?_|refine Bz rfl ?_|refine Lr ?_);conv=>whnf))
  refine Rw_i (rwIn b.m.ter.length ((List.replicate b.m.ter.length (-1)).set i.toNat 0)) (rwIn_set _ _ _ _ (by simp; omega)) ?_
  ((conv=>whnf);repeat((first|refine Ct ‹_› ?_|refine Cf ‹_› ?_|refine Ct rfl ?_|refine Cf rfl ?_|refine Bi rfl ?_|refine Bz rfl ?_|refine Lr ?_);conv=>whnf))
  have hin : Rlx b.m.ter.length sumF (bEg b k w av bk) 0 20 i ((List.replicate b.m.ter.length (-1)).set i.toNat 0) := Rlx.init (by omega) (Int.le_refl 0) i0
  refine WLoop_v2 ⟨[1, 2, 4, 5, 6, 13, 15], [6], []⟩ (fun (c : Bool) (L : List Int) => hdS 102 [(1, .v (vI k)), (2, .v (vI w)), (4, .v (vB bk)), (5, .v (.one (roI av))), (6, .v (.one (.box 6 0))), (13, .v (.one (.own (vkey 13) b.m.ter.length))), (15, .v (vB c))] [(6, b.cs)] [(vkey 13, rwIn b.m.ter.length L)])
    (fun n c L => n = 2 * mu 4000 L + (if c = true then 1 else 0) ∧ Rlx b.m.ter.length sumF (bEg b k w av bk) 0 20 i L ∧ (c = false → DstB b k w i av bk L)) _ true _ rfl ⟨rfl, hin, fun h => by cases h⟩ ?_
  rintro n0 c0 L0 ⟨hn0, hr0, hd0⟩
  ((conv=>whnf);repeat((first|refine Ct ‹_› ?_|refine Cf ‹_› ?_|refine Ct rfl ?_|refine Cf rfl ?_|refine Bi rfl ?_|refine Bz rfl ?_|refine Lr ?_);conv=>whnf))
  refine Cnd_i (fun g => ?_) (fun g => ?_)
  rotate_left
  · have hd := hd0 g
    ((conv=>whnf);repeat((first|refine Ct ‹_› ?_|refine Cf ‹_› ?_|refine Ct rfl ?_|refine Cf rfl ?_|refine Bi rfl ?_|refine Bz rfl ?_|refine Lr ?_);conv=>whnf))
    have e1 : dL b k w i av bk = L0 := hd.eq.symm
    rw [e1, rwIn_eq hd.len, hd.len]
    exact ⟨rfl, rfl, rfl⟩
  subst g
  ((conv=>whnf);repeat((first|refine Ct ‹_› ?_|refine Cf ‹_› ?_|refine Ct rfl ?_|refine Cf rfl ?_|refine Bi rfl ?_|refine Bz rfl ?_|refine Lr ?_);conv=>whnf))
  refine WLoop_v3 ⟨[1, 2, 4, 5, 6, 13, 15, 38, 39], [6], []⟩ (fun (x : Int) (c : Bool) (L : List Int) => hdS 102 [(1, .v (vI k)), (2, .v (vI w)), (4, .v (vB bk)), (5, .v (.one (roI av))), (6, .v (.one (.box 6 0))), (13, .v (.one (.own (vkey 13) b.m.ter.length))), (15, .v (vB c)), (38, .v (vI b.m.ter.length)), (39, .v (vI x))] [(6, b.cs)] [(vkey 13, rwIn b.m.ter.length L)])
    (fun n x c L => 0 ≤ x ∧ x + n = b.m.ter.length ∧ Swp b.m.ter.length sumF (bCo b k w) (nx b.m) (avP av) bk 0 20 i 4000 L0 x 0 L c) b.m.ter.length 0 false L0 rfl ⟨by omega, by omega, Swp.init hr0⟩ ?_
  rintro m x c L ⟨x1, x2, hsw⟩
  ((conv=>whnf);repeat((first|refine Ct ‹_› ?_|refine Cf ‹_› ?_|refine Ct rfl ?_|refine Cf rfl ?_|refine Bi rfl ?_|refine Bz rfl ?_|refine Lr ?_);conv=>whnf))
  refine Cnd_i (fun g => ?_) (fun g => ?_)
  rotate_left
  · have hx := of_decide_eq_false g
    ((conv=>whnf);repeat((first|refine Ct ‹_› ?_|refine Cf ‹_› ?_|refine Ct rfl ?_|refine Cf rfl ?_|refine Bi rfl ?_|refine Bz rfl ?_|refine Lr ?_);conv=>whnf))
    cases c with
    | true =>
      have := hsw.lt rfl
      refine ⟨2 * mu 4000 L + 1, true, L, rfl, by rw [hn0, if_pos rfl]; omega, rfl, hsw.r, fun h => by cases h⟩
    | false =>
      obtain ⟨e1, _⟩ := hsw.eq rfl
      refine ⟨2 * mu 4000 L, false, L, rfl, by rw [hn0, if_pos rfl, e1]; omega, rfl, hsw.r, fun _ => hsw.fin (by omega) he (Int.le_refl 0) i0⟩
  have hx := of_decide_eq_true g
  ((conv=>whnf);repeat((first|refine Ct ‹_› ?_|refine Cf ‹_› ?_|refine Ct rfl ?_|refine Cf rfl ?_|refine Bi rfl ?_|refine Bz rfl ?_|refine Lr ?_);conv=>whnf))
  refine WLoop_v3 ⟨[1, 2, 4, 5, 6, 13, 15, 16, 38, 39, 42], [6], []⟩ (fun (d : Int) (c : Bool) (L : List Int) => hdS 102 [(1, .v (vI k)), (2, .v (vI w)), (4, .v (vB bk)), (5, .v (.one (roI av))), (6, .v (.one (.box 6 0))), (13, .v (.one (.own (vkey 13) b.m.ter.length))), (15, .v (vB c)), (16, .v (vI x)), (38, .v (vI b.m.ter.length)), (39, .v (vI x)), (42, .v (vI d))] [(6, b.cs)] [(vkey 13, rwIn b.m.ter.length L)])
    (fun n d c L => 0 ≤ d ∧ d + n = 6 ∧ Swp b.m.ter.length sumF (bCo b k w) (nx b.m) (avP av) bk 0 20 i 4000 L0 x d L c) 6 0 c L rfl ⟨by omega, by omega, hsw⟩ ?_
  clear hsw
  rintro n d c L ⟨h1, h2, hsw⟩
  have hlen := hsw.r.len
  ((conv=>whnf);repeat((first|refine Ct ‹_› ?_|refine Cf ‹_› ?_|refine Ct rfl ?_|refine Cf rfl ?_|refine Bi rfl ?_|refine Bz rfl ?_|refine Lr ?_);conv=>whnf))
  refine Cnd_i (fun g => ?_) (fun g => ?_)
  rotate_left
  · have hd := of_decide_eq_false g
    ((conv=>whnf);repeat((first|refine Ct ‹_› ?_|refine Cf ‹_› ?_|refine Ct rfl ?_|refine Cf rfl ?_|refine Bi rfl ?_|refine Bz rfl ?_|refine Lr ?_);conv=>whnf))
    obtain rfl : d = 6 := by omega
    refine ⟨m - 1, x + 1, c, L, ?_, by omega, by omega, by omega, hsw.nxt⟩
    rw [wrapI (by omega)]; rfl
  have hd := of_decide_eq_true g
  have hx : 0 ≤ x ∧ x < b.m.ter.length := ⟨x1, hx⟩
  have hsb := stepC_b h (i := x) (d := d) k0 w0
  ((conv=>whnf);repeat((first|refine Ct ‹_› ?_|refine Cf ‹_› ?_|refine Ct rfl ?_|refine Cf rfl ?_|refine Bi rfl ?_|refine Bz rfl ?_|refine Lr ?_);conv=>whnf))
  (refine CallQ_some (F_stepCost b h k x d w k0.1 k0.2 hx.1 hx.2 h1 (by omega) w0.1 w0.2) ?_ ?_ ?_; rfl; rfl); ((conv=>whnf);repeat((first|refine Ct ‹_› ?_|refine Cf ‹_› ?_|refine Ct rfl ?_|refine Cf rfl ?_|refine Bi rfl ?_|refine Bz rfl ?_|refine Lr ?_);conv=>whnf))
  refine Cnd_i (fun g2 => ?_) (fun g2 => ?_)
  · have e2 : stepC b k x d w = 0 := by simpa using g2
    ((conv=>whnf);repeat((first|refine Ct ‹_› ?_|refine Cf ‹_› ?_|refine Ct rfl ?_|refine Cf rfl ?_|refine Bi rfl ?_|refine Bz rfl ?_|refine Lr ?_);conv=>whnf))
    refine ⟨n - 1, d + 1, c, L, ?_, by omega, by omega, by omega, hsw.skip (.inl e2)⟩
    rw [wrapI (by omega)]; rfl
  have e2 : stepC b k x d w ≠ 0 := by simpa using g2
  have hnx := hsb.2.2 e2
  ((conv=>whnf);repeat((first|refine Ct ‹_› ?_|refine Cf ‹_› ?_|refine Ct rfl ?_|refine Cf rfl ?_|refine Bi rfl ?_|refine Bz rfl ?_|refine Lr ?_);conv=>whnf))
  (refine CallQ_some (F_nextTo b.m h.wh x d hx.1 (by omega) h1 (by omega)) ?_ ?_ ?_; rfl; rfl); ((conv=>whnf);repeat((first|refine Ct ‹_› ?_|refine Cf ‹_› ?_|refine Ct rfl ?_|refine Cf rfl ?_|refine Bi rfl ?_|refine Bz rfl ?_|refine Lr ?_);conv=>whnf))
  (refine CallQ_some (F_Contains av (nx b.m x d) hav) ?_ ?_ ?_; rfl; rfl); ((conv=>whnf);repeat((first|refine Ct ‹_› ?_|refine Cf ‹_› ?_|refine Ct rfl ?_|refine Cf rfl ?_|refine Bi rfl ?_|refine Bz rfl ?_|refine Lr ?_);conv=>whnf))
  refine Cnd_i (fun g3 => ?_) (fun g3 => ?_)
  · ((conv=>whnf);repeat((first|refine Ct ‹_› ?_|refine Cf ‹_› ?_|refine Ct rfl ?_|refine Cf rfl ?_|refine Bi rfl ?_|refine Bz rfl ?_|refine Lr ?_);conv=>whnf))
    refine ⟨n - 1, d + 1, c, L, ?_, by omega, by omega, by omega, hsw.skip ((.inr (by rw [avP, g3]; rfl)))⟩
    rw [wrapI (by omega)]; rfl
  have e3 : avP av (nx b.m x d) (bCo b k w x d) = true := by rw [avP, g3]; rfl
  have bd1 := hsw.r.bound (by omega) x.toNat (by omega)
  have bd2 := hsw.r.bound (by omega) (nx b.m x d).toNat (by omega)
  have lw1 := hsw.r.low x.toNat (by omega)
  have lw2 := hsw.r.low (nx b.m x d).toNat (by omega)
  ((conv=>whnf);repeat((first|refine Ct ‹_› ?_|refine Cf ‹_› ?_|refine Ct rfl ?_|refine Cf rfl ?_|refine Bi rfl ?_|refine Bz rfl ?_|refine Lr ?_);conv=>whnf))
  refine Cnd_i (fun g4 => ?_) (fun g4 => ?_)
  · subst g4
    have hj := hnx
    have hk := hx
    ((conv=>whnf);repeat((first|refine Ct ‹_› ?_|refine Cf ‹_› ?_|refine Ct rfl ?_|refine Cf rfl ?_|refine Bi rfl ?_|refine Bz rfl ?_|refine Lr ?_);conv=>whnf))
    refine Bnd_i (⟨hj.1, hj.2⟩) ?_; ((conv=>whnf);repeat((first|refine Ct ‹_› ?_|refine Cf ‹_› ?_|refine Ct rfl ?_|refine Cf rfl ?_|refine Bi rfl ?_|refine Bz rfl ?_|refine Lr ?_);conv=>whnf))
    refine Cnd_i (fun g5 => ?_) (fun g5 => ?_)
    · have d5 := of_decide_eq_true g5
      ((conv=>whnf);repeat((first|refine Ct ‹_› ?_|refine Cf ‹_› ?_|refine Ct rfl ?_|refine Cf rfl ?_|refine Bi rfl ?_|refine Bz rfl ?_|refine Lr ?_);conv=>whnf))
      refine Bnd_i (⟨hk.1, hk.2⟩) ?_; ((conv=>whnf);repeat((first|refine Ct ‹_› ?_|refine Cf ‹_› ?_|refine Ct rfl ?_|refine Cf rfl ?_|refine Bi rfl ?_|refine Bz rfl ?_|refine Lr ?_);conv=>whnf))
      refine Cnd_i (fun g6 => ?_) (fun g6 => ?_)
      · have d6 := of_decide_eq_true g6
        ((conv=>whnf);repeat((first|refine Ct ‹_› ?_|refine Cf ‹_› ?_|refine Ct rfl ?_|refine Cf rfl ?_|refine Bi rfl ?_|refine Bz rfl ?_|refine Lr ?_);conv=>whnf))
        refine Bnd_i (⟨hj.1, hj.2⟩) ?_; ((conv=>whnf);repeat((first|refine Ct ‹_› ?_|refine Cf ‹_› ?_|refine Ct rfl ?_|refine Cf rfl ?_|refine Bi rfl ?_|refine Bz rfl ?_|refine Lr ?_);conv=>whnf))
        refine Bnd_i (⟨hk.1, hk.2⟩) ?_; ((conv=>whnf);repeat((first|refine Ct ‹_› ?_|refine Cf ‹_› ?_|refine Ct rfl ?_|refine Cf rfl ?_|refine Bi rfl ?_|refine Bz rfl ?_|refine Lr ?_);conv=>whnf))
        refine Rw_i (rwIn b.m.ter.length (L.set (x).toNat (L.getD (nx b.m x d).toNat 0 + stepC b k x d w))) (by rw [wrapI (by omega)]; exact rwIn_set _ _ _ _ (by rw [hlen]; omega)) ?_
        ((conv=>whnf);repeat((first|refine Ct ‹_› ?_|refine Cf ‹_› ?_|refine Ct rfl ?_|refine Cf rfl ?_|refine Bi rfl ?_|refine Bz rfl ?_|refine Lr ?_);conv=>whnf))
        have hsy := hsw.yes (j := nx b.m x d) (k := x) he (Int.le_refl 0) i0 hM hx ⟨h1, by omega⟩ e2 e3 rfl rfl d5 (.inl d6)
        refine ⟨n - 1, d + 1, true, L.set (x).toNat (L.getD (nx b.m x d).toNat 0 + stepC b k x d w), ?_, by omega, by omega, by omega, hsy⟩
        rw [wrapI (by omega)]; rfl
      · have d6 := of_decide_eq_false g6
        ((conv=>whnf);repeat((first|refine Ct ‹_› ?_|refine Cf ‹_› ?_|refine Ct rfl ?_|refine Cf rfl ?_|refine Bi rfl ?_|refine Bz rfl ?_|refine Lr ?_);conv=>whnf))
        refine Bnd_i (⟨hj.1, hj.2⟩) ?_; ((conv=>whnf);repeat((first|refine Ct ‹_› ?_|refine Cf ‹_› ?_|refine Ct rfl ?_|refine Cf rfl ?_|refine Bi rfl ?_|refine Bz rfl ?_|refine Lr ?_);conv=>whnf))
        refine Bnd_i (⟨hk.1, hk.2⟩) ?_; ((conv=>whnf);repeat((first|refine Ct ‹_› ?_|refine Cf ‹_› ?_|refine Ct rfl ?_|refine Cf rfl ?_|refine Bi rfl ?_|refine Bz rfl ?_|refine Lr ?_);conv=>whnf))
        refine Cnd_e (c' := decide (L.getD (nx b.m x d).toNat 0 + stepC b k x d w < L.getD (x).toNat 0)) (by rw [wrapI (by omega)]) ?_
        refine Cnd_i (fun g7 => ?_) (fun g7 => ?_)
        · have d7 := of_decide_eq_true g7
          ((conv=>whnf);repeat((first|refine Ct ‹_› ?_|refine Cf ‹_› ?_|refine Ct rfl ?_|refine Cf rfl ?_|refine Bi rfl ?_|refine Bz rfl ?_|refine Lr ?_);conv=>whnf))
          refine Bnd_i (⟨hj.1, hj.2⟩) ?_; ((conv=>whnf);repeat((first|refine Ct ‹_› ?_|refine Cf ‹_› ?_|refine Ct rfl ?_|refine Cf rfl ?_|refine Bi rfl ?_|refine Bz rfl ?_|refine Lr ?_);conv=>whnf))
          refine Bnd_i (⟨hk.1, hk.2⟩) ?_; ((conv=>whnf);repeat((first|refine Ct ‹_› ?_|refine Cf ‹_› ?_|refine Ct rfl ?_|refine Cf rfl ?_|refine Bi rfl ?_|refine Bz rfl ?_|refine Lr ?_);conv=>whnf))
          refine Rw_i (rwIn b.m.ter.length (L.set (x).toNat (L.getD (nx b.m x d).toNat 0 + stepC b k x d w))) (by rw [wrapI (by omega)]; exact rwIn_set _ _ _ _ (by rw [hlen]; omega)) ?_
          ((conv=>whnf);repeat((first|refine Ct ‹_› ?_|refine Cf ‹_› ?_|refine Ct rfl ?_|refine Cf rfl ?_|refine Bi rfl ?_|refine Bz rfl ?_|refine Lr ?_);conv=>whnf))
          have hsy := hsw.yes (j := nx b.m x d) (k := x) he (Int.le_refl 0) i0 hM hx ⟨h1, by omega⟩ e2 e3 rfl rfl d5 (.inr d7)
          refine ⟨n - 1, d + 1, true, L.set (x).toNat (L.getD (nx b.m x d).toNat 0 + stepC b k x d w), ?_, by omega, by omega, by omega, hsy⟩
          rw [wrapI (by omega)]; rfl
        · have d7 := of_decide_eq_false g7
          ((conv=>whnf);repeat((first|refine Ct ‹_› ?_|refine Cf ‹_› ?_|refine Ct rfl ?_|refine Cf rfl ?_|refine Bi rfl ?_|refine Bz rfl ?_|refine Lr ?_);conv=>whnf))
          refine ⟨n - 1, d + 1, c, L, ?_, by omega, by omega, by omega, hsw.no (fun h0 => ?_)⟩
          · rw [wrapI (by omega)]; rfl
          · exact ⟨by show 0 ≤ L.getD (x).toNat 0; omega, by show L.getD (x).toNat 0 ≤ L.getD (nx b.m x d).toNat 0 + stepC b k x d w; omega⟩
    · have d5 := of_decide_eq_false g5
      ((conv=>whnf);repeat((first|refine Ct ‹_› ?_|refine Cf ‹_› ?_|refine Ct rfl ?_|refine Cf rfl ?_|refine Bi rfl ?_|refine Bz rfl ?_|refine Lr ?_);conv=>whnf))
      refine ⟨n - 1, d + 1, c, L, ?_, by omega, by omega, by omega, hsw.no (fun h0 => ?_)⟩
      · rw [wrapI (by omega)]; rfl
      · exact absurd h0 d5
  · subst g4
    have hj := hx
    have hk := hnx
    ((conv=>whnf);repeat((first|refine Ct ‹_› ?_|refine Cf ‹_› ?_|refine Ct rfl ?_|refine Cf rfl ?_|refine Bi rfl ?_|refine Bz rfl ?_|refine Lr ?_);conv=>whnf))
    refine Bnd_i (⟨hj.1, hj.2⟩) ?_; ((conv=>whnf);repeat((first|refine Ct ‹_› ?_|refine Cf ‹_› ?_|refine Ct rfl ?_|refine Cf rfl ?_|refine Bi rfl ?_|refine Bz rfl ?_|refine Lr ?_);conv=>whnf))
    refine Cnd_i (fun g5 => ?_) (fun g5 => ?_)
    · have d5 := of_decide_eq_true g5
      ((conv=>whnf);repeat((first|refine Ct ‹_› ?_|refine Cf ‹_› ?_|refine Ct rfl ?_|refine Cf rfl ?_|refine Bi rfl ?_|refine Bz rfl ?_|refine Lr ?_);conv=>whnf))
      refine Bnd_i (⟨hk.1, hk.2⟩) ?_; ((conv=>whnf);repeat((first|refine Ct ‹_› ?_|refine Cf ‹_› ?_|refine Ct rfl ?_|refine Cf rfl ?_|refine Bi rfl ?_|refine Bz rfl ?_|refine Lr ?_);conv=>whnf))
      refine Cnd_i (fun g6 => ?_) (fun g6 => ?_)
      · have d6 := of_decide_eq_true g6
        ((conv=>whnf);repeat((first|refine Ct ‹_› ?_|refine Cf ‹_› ?_|refine Ct rfl ?_|refine Cf rfl ?_|refine Bi rfl ?_|refine Bz rfl ?_|refine Lr ?_);conv=>whnf))
        refine Bnd_i (⟨hj.1, hj.2⟩) ?_; ((conv=>whnf);repeat((first|refine Ct ‹_› ?_|refine Cf ‹_› ?_|refine Ct rfl ?_|refine Cf rfl ?_|refine Bi rfl ?_|refine Bz rfl ?_|refine Lr ?_);conv=>whnf))
        refine Bnd_i (⟨hk.1, hk.2⟩) ?_; ((conv=>whnf);repeat((first|refine Ct ‹_› ?_|refine Cf ‹_› ?_|refine Ct rfl ?_|refine Cf rfl ?_|refine Bi rfl ?_|refine Bz rfl ?_|refine Lr ?_);conv=>whnf))
        refine Rw_i (rwIn b.m.ter.length (L.set (nx b.m x d).toNat (L.getD (x).toNat 0 + stepC b k x d w))) (by rw [wrapI (by omega)]; exact rwIn_set _ _ _ _ (by rw [hlen]; omega)) ?_
        ((conv=>whnf);repeat((first|refine Ct ‹_› ?_|refine Cf ‹_› ?_|refine Ct rfl ?_|refine Cf rfl ?_|refine Bi rfl ?_|refine Bz rfl ?_|refine Lr ?_);conv=>whnf))
        have hsy := hsw.yes (j := x) (k := nx b.m x d) he (Int.le_refl 0) i0 hM hx ⟨h1, by omega⟩ e2 e3 rfl rfl d5 (.inl d6)
        refine ⟨n - 1, d + 1, true, L.set (nx b.m x d).toNat (L.getD (x).toNat 0 + stepC b k x d w), ?_, by omega, by omega, by omega, hsy⟩
        rw [wrapI (by omega)]; rfl
      · have d6 := of_decide_eq_false g6
        ((conv=>whnf);repeat((first|refine Ct ‹_› ?_|refine Cf ‹_› ?_|refine Ct rfl ?_|refine Cf rfl ?_|refine Bi rfl ?_|refine Bz rfl ?_|refine Lr ?_);conv=>whnf))
        refine Bnd_i (⟨hj.1, hj.2⟩) ?_; ((conv=>whnf);repeat((first|refine Ct ‹_› ?_|refine Cf ‹_› ?_|refine Ct rfl ?_|refine Cf rfl ?_|refine Bi rfl ?_|refine Bz rfl ?_|refine Lr ?_);conv=>whnf))
        refine Bnd_i (⟨hk.1, hk.2⟩) ?_; ((conv=>whnf);repeat((first|refine Ct ‹_› ?_|refine Cf ‹_› ?_|refine Ct rfl ?_|refine Cf rfl ?_|refine Bi rfl ?_|refine Bz rfl ?_|refine Lr ?_);conv=>whnf))
        refine Cnd_e (c' := decide (L.getD (x).toNat 0 + stepC b k x d w < L.getD (nx b.m x d).toNat 0)) (by rw [wrapI (by omega)]) ?_
        refine Cnd_i (fun g7 => ?_) (fun g7 => ?_)
        · have d7 := of_decide_eq_true g7
          ((conv=>whnf);repeat((first|refine Ct ‹_› ?_|refine Cf ‹_› ?_|refine Ct rfl ?_|refine Cf rfl ?_|refine Bi rfl ?_|refine Bz rfl ?_|refine Lr ?_);conv=>whnf))
          refine Bnd_i (⟨hj.1, hj.2⟩) ?_; ((conv=>whnf);repeat((first|refine Ct ‹_› ?_|refine Cf ‹_› ?_|refine Ct rfl ?_|refine Cf rfl ?_|refine Bi rfl ?_|refine Bz rfl ?_|refine Lr ?_);conv=>whnf))
          refine Bnd_i (⟨hk.1, hk.2⟩) ?_; ((conv=>whnf);repeat((first|refine Ct ‹_› ?_|refine Cf ‹_› ?_|refine Ct rfl ?_|refine Cf rfl ?_|refine Bi rfl ?_|refine Bz rfl ?_|refine Lr ?_);conv=>whnf))
          refine Rw_i (rwIn b.m.ter.length (L.set (nx b.m x d).toNat (L.getD (x).toNat 0 + stepC b k x d w))) (by rw [wrapI (by omega)]; exact rwIn_set _ _ _ _ (by rw [hlen]; omega)) ?_
          ((conv=>whnf);repeat((first|refine Ct ‹_› ?_|refine Cf ‹_› ?_|refine Ct rfl ?_|refine Cf rfl ?_|refine Bi rfl ?_|refine Bz rfl ?_|refine Lr ?_);conv=>whnf))
          have hsy := hsw.yes (j := x) (k := nx b.m x d) he (Int.le_refl 0) i0 hM hx ⟨h1, by omega⟩ e2 e3 rfl rfl d5 (.inr d7)
          refine ⟨n - 1, d + 1, true, L.set (nx b.m x d).toNat (L.getD (x).toNat 0 + stepC b k x d w), ?_, by omega, by omega, by omega, hsy⟩
          rw [wrapI (by omega)]; rfl
        · have d7 := of_decide_eq_false g7
          ((conv=>whnf);repeat((first|refine Ct ‹_› ?_|refine Cf ‹_› ?_|refine Ct rfl ?_|refine Cf rfl ?_|refine Bi rfl ?_|refine Bz rfl ?_|refine Lr ?_);conv=>whnf))
          refine ⟨n - 1, d + 1, c, L, ?_, by omega, by omega, by omega, hsw.no (fun h0 => ?_)⟩
          · rw [wrapI (by omega)]; rfl
          · exact ⟨by show 0 ≤ L.getD (nx b.m x d).toNat 0; omega, by show L.getD (nx b.m x d).toNat 0 ≤ L.getD (x).toNat 0 + stepC b k x d w; omega⟩
    · have d5 := of_decide_eq_false g5
      ((conv=>whnf);repeat((first|refine Ct ‹_› ?_|refine Cf ‹_› ?_|refine Ct rfl ?_|refine Cf rfl ?_|refine Bi rfl ?_|refine Bz rfl ?_|refine Lr ?_);conv=>whnf))
      refine ⟨n - 1, d + 1, c, L, ?_, by omega, by omega, by omega, hsw.no (fun h0 => ?_)⟩
      · rw [wrapI (by omega)]; rfl
      · exact absurd h0 d5

theorem F_mSizeB (b : Brd) (h : GB b) : Fun E0 64 [.agg b.m.cs] [] (.v (vI b.m.ter.length)) [] [] := by
  rw [h.n]; exact F_mSize b.m h.wh

theorem F_pFrom (b : Brd) (h : GB b) (k w i : Int) (av : List Int) (k0 : 0 ≤ k ∧ k < b.r.knd.length) (w0 : 0 ≤ w ∧ w ≤ 2) (i0 : 0 ≤ i ∧ i < b.m.ter.length) (hav : av.length ≤ maxLen) :
    Fun E0 49 [.agg b.cs, vI k, vI w, vI i, .one (roI av)] [] (.v (.one (.own 0 (dL b k w i av false).length))) [(0, rwI (dL b k w i av false))] [] := by
  have hm := h.wh.mul
  have hn := h.n
  have he := eok_s h k0 w0 av false
  refine Fun_of_xc k49 rfl rfl (nrC (rwI_no _) nrN) ?_
  ((conv=>whnf);repeat((first|refine Ct ‹_› ?_|refine Cf ‹_› ?_|refine Ct rfl ?_|refine Cf rfl ?_|refine Bi rfl ?_|refine Bz rfl ?_|refine Lr ?_);conv=>whnf))
  refine Rw_i (rwI []) (rwI_nil _) ?_
  ((conv=>whnf);repeat((first|refine Ct ‹_› ?_|refine Cf ‹_› ?_|refine Ct rfl ?_|refine Cf rfl ?_|refine Bi rfl ?_|refine Bz rfl ?_|refine Lr ?_);conv=>whnf))
  (refine CallQ_some (F_mSizeB b h) ?_ ?_ ?_; rfl; rfl); ((conv=>whnf);repeat((first|refine Ct ‹_› ?_|refine Cf ‹_› ?_|refine Ct rfl ?_|refine Cf rfl ?_|refine Bi rfl ?_|refine Bz rfl ?_|refine Lr ?_);conv=>whnf))
  refine Bnd_i (by omega) ?_
  ((conv=>whnf);repeat((first|refine Ct ‹_› ?_|refine Cf ‹_› ?_|refine Ct rfl ?_|refine Cf rfl ?_|refine Bi rfl ?_|refine Bz rfl ?_|refine Lr ?_);conv=>whnf))
  refine Rw_i (rwIn b.m.ter.length (List.replicate b.m.ter.length 0)) (rwIn_zero _) ?_
  ((conv=>whnf);repeat((first|refine Ct ‹_› ?_|refine Cf ‹_› ?_|refine Ct rfl ?_|refine Cf rfl ?_|refine Bi rfl ?_|refine Bz rfl ?_|refine Lr ?_);conv=>whnf))
  refine Bnd_i (by have : (rwIn b.m.ter.length (List.replicate b.m.ter.length 0)).n = b.m.ter.length := rfl; omega) ?_
  ((conv=>whnf);repeat((first|refine Ct ‹_› ?_|refine Cf ‹_› ?_|refine Ct rfl ?_|refine Cf rfl ?_|refine Bi rfl ?_|refine Bz rfl ?_|refine Lr ?_);conv=>whnf))
  refine Rw_i (rwBn b.m.ter.length (List.replicate b.m.ter.length false)) (rwBn_zero _) ?_
  ((conv=>whnf);repeat((first|refine Ct ‹_› ?_|refine Cf ‹_› ?_|refine Ct rfl ?_|refine Cf rfl ?_|refine Bi rfl ?_|refine Bz rfl ?_|refine Lr ?_);conv=>whnf))
  refine WLoop_v2 ⟨[1, 2, 3, 4, 5, 11, 12, 29, 30], [5], []⟩ (fun (t : Int) (L : List Int) => hdS 122 [(1, .v (vI k)), (2, .v (vI w)), (3, .v (vI i)), (4, .v (.one (roI av))), (5, .v (.one (.box 5 0))), (11, .v (.one (.own (vkey 11) b.m.ter.length))), (12, .v (.one (.own (vkey 12) b.m.ter.length))), (29, .v (vI b.m.ter.length)), (30, .v (vI t))] [(5, b.cs)] [(vkey 11, rwIn b.m.ter.length L), (vkey 12, rwBn b.m.ter.length (List.replicate b.m.ter.length false))])
    (fun n t L => 0 ≤ t ∧ t + n = b.m.ter.length ∧ L.length = b.m.ter.length ∧ ∀ j : Nat, (j : Int) < t → L.getD j 0 = -1) b.m.ter.length 0 (List.replicate b.m.ter.length 0) rfl ⟨by omega, by omega, by simp, fun j hj => by omega⟩ ?_
  rintro n t L ⟨h1, h2, hlen, h3⟩
  ((conv=>whnf);repeat((first|refine Ct ‹_› ?_|refine Cf ‹_› ?_|refine Ct rfl ?_|refine Cf rfl ?_|refine Bi rfl ?_|refine Bz rfl ?_|refine Lr ?_);conv=>whnf))
  refine Cnd_i (fun g => ?_) (fun g => ?_)
  · have ht := of_decide_eq_true g
    ((conv=>whnf);repeat((first|refine Ct ‹_› ?_|refine Cf ‹_› ?_|refine Ct rfl ?_|refine Cf rfl ?_|refine Bi rfl ?_|refine Bz rfl ?_|refine Lr ?_);conv=>whnf))
    refine Bnd_i (⟨h1, ht⟩) ?_; ((conv=>whnf);repeat((first|refine Ct ‹_› ?_|refine Cf ‹_› ?_|refine Ct rfl ?_|refine Cf rfl ?_|refine Bi rfl ?_|refine Bz rfl ?_|refine Lr ?_);conv=>whnf))
    refine Rw_i (rwIn b.m.ter.length (L.set t.toNat (-1))) (rwIn_set _ _ _ _ (by omega)) ?_
    ((conv=>whnf);repeat((first|refine Ct ‹_› ?_|refine Cf ‹_› ?_|refine Ct rfl ?_|refine Cf rfl ?_|refine Bi rfl ?_|refine Bz rfl ?_|refine Lr ?_);conv=>whnf))
    refine ⟨n - 1, t + 1, L.set t.toNat (-1), ?_, by omega, by omega, by omega, by simp [hlen], fun j hj => ?_⟩
    · rw [wrapI (by omega)]; rfl
    · rw [getD_set _ _ _ _ (by omega)]
      split
      · rfl
      · exact h3 j (by omega)
  have ht := of_decide_eq_false g
  have hL := all_neg1 hlen (fun j hj => h3 j (by omega))
  subst hL
  clear h1 h2 h3 hlen g ht
  ((conv=>whnf);repeat((first|refine Ct ‹_› ?_|refine Cf ‹_› ?_|refine Ct rfl ?_|refine Cf rfl ?_|refine Bi rfl ?_|refine Bz rfl ?_|refine Lr ?_);conv=>whnf))
  refine Bnd_i (⟨i0.1, i0.2⟩) ?_; ((conv=>whnf);repeat((first|refine Ct ‹_› ?_|refine Cf ‹_› ?_|refine Ct rfl ?_|refine Cf rfl ?_|refine Bi rfl ?_|refine Bz rfl ?_|refine Lr ?_);conv=>whnf))
  refine Rw_i (rwIn b.m.ter.length ((List.replicate b.m.ter.length (-1)).set i.toNat 0)) (rwIn_set _ _ _ _ (by simp; omega)) ?_
  ((conv=>whnf);repeat((first|refine Ct ‹_› ?_|refine Cf ‹_› ?_|refine Ct rfl ?_|refine Cf rfl ?_|refine Bi rfl ?_|refine Bz rfl ?_|refine Lr ?_);conv=>whnf))
  have hin : Rlx b.m.ter.length sumF (bEg b k w av false) 0 20 i ((List.replicate b.m.ter.length (-1)).set i.toNat 0) := Rlx.init (by omega) (Int.le_refl 0) i0
  refine WLoop_v2 ⟨[1, 2, 4, 5, 11, 12], [5], []⟩ (fun (L : List Int) (D : List Bool) => hdS 122 [(1, .v (vI k)), (2, .v (vI w)), (4, .v (.one (roI av))), (5, .v (.one (.box 5 0))), (11, .v (.one (.own (vkey 11) b.m.ter.length))), (12, .v (.one (.own (vkey 12) b.m.ter.length)))] [(5, b.cs)] [(vkey 11, rwIn b.m.ter.length L), (vkey 12, rwBn b.m.ter.length D)])
    (fun n L D => n = cntF D ∧ Djk b.m.ter.length sumF (bCo b k w) (nx b.m) (avP av) 0 20 i L D) _ _ _ rfl ⟨rfl, Djk.init hin⟩ ?_
  clear hin
  rintro n0 L0 D0 ⟨hn0, hdj⟩
  have hlen := hdj.r.len
  have hlD := hdj.len
  ((conv=>whnf);repeat((first|refine Ct ‹_› ?_|refine Cf ‹_› ?_|refine Ct rfl ?_|refine Cf rfl ?_|refine Bi rfl ?_|refine Bz rfl ?_|refine Lr ?_);conv=>whnf))
  refine WLoop_v2 ⟨[1, 2, 4, 5, 11, 12, 14, 41, 42], [5], [(40, 11)]⟩ (fun (y t : Int) => hdS 122 [(1, .v (vI k)), (2, .v (vI w)), (4, .v (.one (roI av))), (5, .v (.one (.box 5 0))), (11, .v (.one (.own (vkey 11) b.m.ter.length))), (12, .v (.one (.own (vkey 12) b.m.ter.length))), (14, .v (vI y)), (40, .v (.one (.own (vkey 11) b.m.ter.length))), (41, .v (vI b.m.ter.length)), (42, .v (vI t))] [(5, b.cs)] [(vkey 11, rwIn b.m.ter.length L0), (vkey 12, rwBn b.m.ter.length D0)])
    (fun n y t => 0 ≤ t ∧ t + n = b.m.ter.length ∧ bestI L0 D0 y t) b.m.ter.length (-1) 0 rfl ⟨by omega, by omega, .inl ⟨rfl, fun j hj => by omega⟩⟩ ?_
  rintro n y t ⟨h1, h2, h3⟩
  ((conv=>whnf);repeat((first|refine Ct ‹_› ?_|refine Cf ‹_› ?_|refine Ct rfl ?_|refine Cf rfl ?_|refine Bi rfl ?_|refine Bz rfl ?_|refine Lr ?_);conv=>whnf))
  refine Cnd_i (fun g => ?_) (fun g => ?_)
  · have ht := of_decide_eq_true g
    have hy := h3.b
    ((conv=>whnf);repeat((first|refine Ct ‹_› ?_|refine Cf ‹_› ?_|refine Ct rfl ?_|refine Cf rfl ?_|refine Bi rfl ?_|refine Bz rfl ?_|refine Lr ?_);conv=>whnf))
    refine Bnd_i (⟨h1, ht⟩) ?_; ((conv=>whnf);repeat((first|refine Ct ‹_› ?_|refine Cf ‹_› ?_|refine Ct rfl ?_|refine Cf rfl ?_|refine Bi rfl ?_|refine Bz rfl ?_|refine Lr ?_);conv=>whnf))
    refine Cnd_i (fun g2 => ?_) (fun g2 => ?_)
    · have d2 := of_decide_eq_true g2
      ((conv=>whnf);repeat((first|refine Ct ‹_› ?_|refine Cf ‹_› ?_|refine Ct rfl ?_|refine Cf rfl ?_|refine Bi rfl ?_|refine Bz rfl ?_|refine Lr ?_);conv=>whnf))
      refine Bnd_i (⟨h1, ht⟩) ?_; ((conv=>whnf);repeat((first|refine Ct ‹_› ?_|refine Cf ‹_› ?_|refine Ct rfl ?_|refine Cf rfl ?_|refine Bi rfl ?_|refine Bz rfl ?_|refine Lr ?_);conv=>whnf))
      refine Cnd_i (fun g3 => ?_) (fun g3 => ?_)
      · have d3 : D0.getD t.toNat false = false := by simpa using g3
        ((conv=>whnf);repeat((first|refine Ct ‹_› ?_|refine Cf ‹_› ?_|refine Ct rfl ?_|refine Cf rfl ?_|refine Bi rfl ?_|refine Bz rfl ?_|refine Lr ?_);conv=>whnf))
        refine Cnd_i (fun g4 => ?_) (fun g4 => ?_)
        · have d4 := of_decide_eq_true g4
          ((conv=>whnf);repeat((first|refine Ct ‹_› ?_|refine Cf ‹_› ?_|refine Ct rfl ?_|refine Cf rfl ?_|refine Bi rfl ?_|refine Bz rfl ?_|refine Lr ?_);conv=>whnf))
          refine ⟨n - 1, t, t + 1, ?_, by omega, by omega, by omega, h3.take h1 d3 d2 (.inl d4)⟩
          rw [wrapI (by omega)]; rfl
        · have d4 := of_decide_eq_false g4
          ((conv=>whnf);repeat((first|refine Ct ‹_› ?_|refine Cf ‹_› ?_|refine Ct rfl ?_|refine Cf rfl ?_|refine Bi rfl ?_|refine Bz rfl ?_|refine Lr ?_);conv=>whnf))
          refine Bnd_i (⟨by omega, by omega⟩) ?_; ((conv=>whnf);repeat((first|refine Ct ‹_› ?_|refine Cf ‹_› ?_|refine Ct rfl ?_|refine Cf rfl ?_|refine Bi rfl ?_|refine Bz rfl ?_|refine Lr ?_);conv=>whnf))
          refine Cnd_i (fun g5 => ?_) (fun g5 => ?_)
          · have d5 := of_decide_eq_true g5
            ((conv=>whnf);repeat((first|refine Ct ‹_› ?_|refine Cf ‹_› ?_|refine Ct rfl ?_|refine Cf rfl ?_|refine Bi rfl ?_|refine Bz rfl ?_|refine Lr ?_);conv=>whnf))
            refine ⟨n - 1, t, t + 1, ?_, by omega, by omega, by omega, h3.take h1 d3 d2 (.inr d5)⟩
            rw [wrapI (by omega)]; rfl
          · have d5 := of_decide_eq_false g5
            ((conv=>whnf);repeat((first|refine Ct ‹_› ?_|refine Cf ‹_› ?_|refine Ct rfl ?_|refine Cf rfl ?_|refine Bi rfl ?_|refine Bz rfl ?_|refine Lr ?_);conv=>whnf))
            refine ⟨n - 1, y, t + 1, ?_, by omega, by omega, by omega, h3.keep (fun _ _ => ⟨by omega, by omega⟩)⟩
            rw [wrapI (by omega)]; rfl
      · have d3 : D0.getD t.toNat false = true := by simpa using g3
        ((conv=>whnf);repeat((first|refine Ct ‹_› ?_|refine Cf ‹_› ?_|refine Ct rfl ?_|refine Cf rfl ?_|refine Bi rfl ?_|refine Bz rfl ?_|refine Lr ?_);conv=>whnf))
        refine ⟨n - 1, y, t + 1, ?_, by omega, by omega, by omega, h3.keep (fun hh _ => by rw [d3] at hh; cases hh)⟩
        rw [wrapI (by omega)]; rfl
    · have d2 := of_decide_eq_false g2
      ((conv=>whnf);repeat((first|refine Ct ‹_› ?_|refine Cf ‹_› ?_|refine Ct rfl ?_|refine Cf rfl ?_|refine Bi rfl ?_|refine Bz rfl ?_|refine Lr ?_);conv=>whnf))
      refine ⟨n - 1, y, t + 1, ?_, by omega, by omega, by omega, h3.keep (fun _ hh => by omega)⟩
      rw [wrapI (by omega)]; rfl
  have ht := of_decide_eq_false g
  obtain rfl : t = b.m.ter.length := by omega
  ((conv=>whnf);repeat((first|refine Ct ‹_› ?_|refine Cf ‹_› ?_|refine Ct rfl ?_|refine Cf rfl ?_|refine Bi rfl ?_|refine Bz rfl ?_|refine Lr ?_);conv=>whnf))
  refine Cnd_i (fun g2 => ?_) (fun g2 => ?_)
  · have d2 := of_decide_eq_true g2
    ((conv=>whnf);repeat((first|refine Ct ‹_› ?_|refine Cf ‹_› ?_|refine Ct rfl ?_|refine Cf rfl ?_|refine Bi rfl ?_|refine Bz rfl ?_|refine Lr ?_);conv=>whnf))
    have hd : DstB b k w i av false L0 := hdj.fin he (Int.le_refl 0) i0 (fun j hj hD => by
      rcases h3 with h3 | h3
      · have := h3.2 j (by omega) hD; omega
      · omega)
    have e1 : dL b k w i av false = L0 := hd.eq.symm
    rw [e1, rwIn_eq hd.len, hd.len]
    exact ⟨rfl, rfl, rfl⟩
  have d2 := of_decide_eq_false g2
  rcases h3 with h3 | ⟨y1, y2, y3, y4⟩
  · omega
  have hdb := hdj.pick ⟨y1, y2⟩ y3 y4.1 (fun j hj hD hp => y4.2 j (by omega) hD hp)
  have hcnt := cntF_set D0 y.toNat (by omega) y3
  have hlD' : (D0.set y.toNat true).length = b.m.ter.length := by rw [List.length_set]; exact hlD
  ((conv=>whnf);repeat((first|refine Ct ‹_› ?_|refine Cf ‹_› ?_|refine Ct rfl ?_|refine Cf rfl ?_|refine Bi rfl ?_|refine Bz rfl ?_|refine Lr ?_);conv=>whnf))
  refine Bnd_i (⟨y1, y2⟩) ?_; ((conv=>whnf);repeat((first|refine Ct ‹_› ?_|refine Cf ‹_› ?_|refine Ct rfl ?_|refine Cf rfl ?_|refine Bi rfl ?_|refine Bz rfl ?_|refine Lr ?_);conv=>whnf))
  refine Rw_i (rwBn b.m.ter.length (D0.set y.toNat true)) (rwBn_set _ _ _ _ (by omega)) ?_
  ((conv=>whnf);repeat((first|refine Ct ‹_› ?_|refine Cf ‹_› ?_|refine Ct rfl ?_|refine Cf rfl ?_|refine Bi rfl ?_|refine Bz rfl ?_|refine Lr ?_);conv=>whnf))
  generalize D0.set y.toNat true = D at hdb hcnt hlD' ⊢
  clear y3 y4 hdj
  refine WLoop_v2 ⟨[1, 2, 4, 5, 11, 12, 14, 17], [5], []⟩ (fun (d : Int) (L : List Int) => hdS 122 [(1, .v (vI k)), (2, .v (vI w)), (4, .v (.one (roI av))), (5, .v (.one (.box 5 0))), (11, .v (.one (.own (vkey 11) b.m.ter.length))), (12, .v (.one (.own (vkey 12) b.m.ter.length))), (14, .v (vI y)), (17, .v (vI d))] [(5, b.cs)] [(vkey 11, rwIn b.m.ter.length L), (vkey 12, rwBn b.m.ter.length D)])
    (fun n d L => 0 ≤ d ∧ d + n = 6 ∧ Djb b.m.ter.length sumF (bCo b k w) (nx b.m) (avP av) 0 20 i y d L D) 6 0 L0 rfl ⟨by omega, by omega, hdb⟩ ?_
  clear hdb hlen
  rintro n d L ⟨h1, h2, hdb⟩
  have hlen := hdb.r.len
  ((conv=>whnf);repeat((first|refine Ct ‹_› ?_|refine Cf ‹_› ?_|refine Ct rfl ?_|refine Cf rfl ?_|refine Bi rfl ?_|refine Bz rfl ?_|refine Lr ?_);conv=>whnf))
  refine Cnd_i (fun g => ?_) (fun g => ?_)
  rotate_left
  · have hd := of_decide_eq_false g
    ((conv=>whnf);repeat((first|refine Ct ‹_› ?_|refine Cf ‹_› ?_|refine Ct rfl ?_|refine Cf rfl ?_|refine Bi rfl ?_|refine Bz rfl ?_|refine Lr ?_);conv=>whnf))
    obtain rfl : d = 6 := by omega
    exact ⟨cntF D, L, D, rfl, by omega, rfl, hdb.fin⟩
  have hd := of_decide_eq_true g
  have hsb := stepC_b h (i := y) (d := d) k0 w0
  ((conv=>whnf);repeat((first|refine Ct ‹_› ?_|refine Cf ‹_› ?_|refine Ct rfl ?_|refine Cf rfl ?_|refine Bi rfl ?_|refine Bz rfl ?_|refine Lr ?_);conv=>whnf))
  (refine CallQ_some (F_cStep b h k y d w k0.1 k0.2 y1 y2 h1 (by omega) w0.1 w0.2) ?_ ?_ ?_; rfl; rfl); ((conv=>whnf);repeat((first|refine Ct ‹_› ?_|refine Cf ‹_› ?_|refine Ct rfl ?_|refine Cf rfl ?_|refine Bi rfl ?_|refine Bz rfl ?_|refine Lr ?_);conv=>whnf))
  refine Cnd_i (fun g2 => ?_) (fun g2 => ?_)
  · have e2 : stepC b k y d w = 0 := by simpa using g2
    ((conv=>whnf);repeat((first|refine Ct ‹_› ?_|refine Cf ‹_› ?_|refine Ct rfl ?_|refine Cf rfl ?_|refine Bi rfl ?_|refine Bz rfl ?_|refine Lr ?_);conv=>whnf))
    refine ⟨n - 1, d + 1, L, ?_, by omega, by omega, by omega, hdb.skip (.inl e2)⟩
    rw [wrapI (by omega)]; rfl
  have e2 : stepC b k y d w ≠ 0 := by simpa using g2
  have hnx := hsb.2.2 e2
  have bd1 := hdb.r.bound (by omega) y.toNat (by omega)
  have lw1 := hdb.r.low y.toNat (by omega)
  have hy0 := (hdb.dn y.toNat (by omega) hdb.db).1
  ((conv=>whnf);repeat((first|refine Ct ‹_› ?_|refine Cf ‹_› ?_|refine Ct rfl ?_|refine Cf rfl ?_|refine Bi rfl ?_|refine Bz rfl ?_|refine Lr ?_);conv=>whnf))
  (refine CallQ_some (F_mNext b.m h.wh y d y1 (by omega) h1 (by omega)) ?_ ?_ ?_; rfl; rfl); ((conv=>whnf);repeat((first|refine Ct ‹_› ?_|refine Cf ‹_› ?_|refine Ct rfl ?_|refine Cf rfl ?_|refine Bi rfl ?_|refine Bz rfl ?_|refine Lr ?_);conv=>whnf))
  refine Bnd_i (⟨y1, y2⟩) ?_; ((conv=>whnf);repeat((first|refine Ct ‹_› ?_|refine Cf ‹_› ?_|refine Ct rfl ?_|refine Cf rfl ?_|refine Bi rfl ?_|refine Bz rfl ?_|refine Lr ?_);conv=>whnf))
  (refine CallQ_some (F_l1Has av (nx b.m y d) hav) ?_ ?_ ?_; rfl; rfl); ((conv=>whnf);repeat((first|refine Ct ‹_› ?_|refine Cf ‹_› ?_|refine Ct rfl ?_|refine Cf rfl ?_|refine Bi rfl ?_|refine Bz rfl ?_|refine Lr ?_);conv=>whnf))
  refine Cnd_i (fun g3 => ?_) (fun g3 => ?_)
  rotate_left
  · have e3 : av.contains (nx b.m y d) = true := by rwa [Bool.not_eq_false'] at g3
    ((conv=>whnf);repeat((first|refine Ct ‹_› ?_|refine Cf ‹_› ?_|refine Ct rfl ?_|refine Cf rfl ?_|refine Bi rfl ?_|refine Bz rfl ?_|refine Lr ?_);conv=>whnf))
    refine ⟨n - 1, d + 1, L, ?_, by omega, by omega, by omega, hdb.skip (.inr (by rw [avP, e3]; rfl))⟩
    rw [wrapI (by omega)]; rfl
  have e3 : avP av (nx b.m y d) (bCo b k w y d) = true := g3
  ((conv=>whnf);repeat((first|refine Ct ‹_› ?_|refine Cf ‹_› ?_|refine Ct rfl ?_|refine Cf rfl ?_|refine Bi rfl ?_|refine Bz rfl ?_|refine Lr ?_);conv=>whnf))
  refine Bnd_i (⟨hnx.1, hnx.2⟩) ?_; ((conv=>whnf);repeat((first|refine Ct ‹_› ?_|refine Cf ‹_› ?_|refine Ct rfl ?_|refine Cf rfl ?_|refine Bi rfl ?_|refine Bz rfl ?_|refine Lr ?_);conv=>whnf))
  refine Cnd_i (fun g6 => ?_) (fun g6 => ?_)
  · have d6 := of_decide_eq_true g6
    ((conv=>whnf);repeat((first|refine Ct ‹_› ?_|refine Cf ‹_› ?_|refine Ct rfl ?_|refine Cf rfl ?_|refine Bi rfl ?_|refine Bz rfl ?_|refine Lr ?_);conv=>whnf))
    refine Bnd_i (⟨hnx.1, hnx.2⟩) ?_; ((conv=>whnf);repeat((first|refine Ct ‹_› ?_|refine Cf ‹_› ?_|refine Ct rfl ?_|refine Cf rfl ?_|refine Bi rfl ?_|refine Bz rfl ?_|refine Lr ?_);conv=>whnf))
    refine Rw_i (rwIn b.m.ter.length (L.set (nx b.m y d).toNat (L.getD y.toNat 0 + stepC b k y d w))) (by rw [wrapI (by omega)]; exact rwIn_set _ _ _ _ (by rw [hlen]; omega)) ?_
    ((conv=>whnf);repeat((first|refine Ct ‹_› ?_|refine Cf ‹_› ?_|refine Ct rfl ?_|refine Cf rfl ?_|refine Bi rfl ?_|refine Bz rfl ?_|refine Lr ?_);conv=>whnf))
    have hdy := hdb.yes he (Int.le_refl 0) i0 ⟨h1, by omega⟩ e2 e3 (.inl d6)
    refine ⟨n - 1, d + 1, L.set (nx b.m y d).toNat (L.getD y.toNat 0 + stepC b k y d w), ?_, by omega, by omega, by omega, hdy⟩
    rw [wrapI (by omega)]; rfl
  · have d6 := of_decide_eq_false g6
    ((conv=>whnf);repeat((first|refine Ct ‹_› ?_|refine Cf ‹_› ?_|refine Ct rfl ?_|refine Cf rfl ?_|refine Bi rfl ?_|refine Bz rfl ?_|refine Lr ?_);conv=>whnf))
    refine Bnd_i (⟨hnx.1, hnx.2⟩) ?_; ((conv=>whnf);repeat((first|refine Ct ‹_› ?_|refine Cf ‹_› ?_|refine Ct rfl ?_|refine Cf rfl ?_|refine Bi rfl ?_|refine Bz rfl ?_|refine Lr ?_);conv=>whnf))
    refine Cnd_e (c' := decide (L.getD y.toNat 0 + stepC b k y d w < L.getD (nx b.m y d).toNat 0)) (by rw [wrapI (by omega)]) ?_
    refine Cnd_i (fun g7 => ?_) (fun g7 => ?_)
    · have d7 := of_decide_eq_true g7
      ((conv=>whnf);repeat((first|refine Ct ‹_› ?_|refine Cf ‹_› ?_|refine Ct rfl ?_|refine Cf rfl ?_|refine Bi rfl ?_|refine Bz rfl ?_|refine Lr ?_);conv=>whnf))
      refine Bnd_i (⟨hnx.1, hnx.2⟩) ?_; ((conv=>whnf);repeat((first|refine Ct ‹_› ?_|refine Cf ‹_› ?_|refine Ct rfl ?_|refine Cf rfl ?_|refine Bi rfl ?_|refine Bz rfl ?_|refine Lr ?_);conv=>whnf))
      refine Rw_i (rwIn b.m.ter.length (L.set (nx b.m y d).toNat (L.getD y.toNat 0 + stepC b k y d w))) (by rw [wrapI (by omega)]; exact rwIn_set _ _ _ _ (by rw [hlen]; omega)) ?_
      ((conv=>whnf);repeat((first|refine Ct ‹_› ?_|refine Cf ‹_› ?_|refine Ct rfl ?_|refine Cf rfl ?_|refine Bi rfl ?_|refine Bz rfl ?_|refine Lr ?_);conv=>whnf))
      have hdy := hdb.yes he (Int.le_refl 0) i0 ⟨h1, by omega⟩ e2 e3 (.inr d7)
      refine ⟨n - 1, d + 1, L.set (nx b.m y d).toNat (L.getD y.toNat 0 + stepC b k y d w), ?_, by omega, by omega, by omega, hdy⟩
      rw [wrapI (by omega)]; rfl
    · have d7 := of_decide_eq_false g7
      ((conv=>whnf);repeat((first|refine Ct ‹_› ?_|refine Cf ‹_› ?_|refine Ct rfl ?_|refine Cf rfl ?_|refine Bi rfl ?_|refine Bz rfl ?_|refine Lr ?_);conv=>whnf))
      refine ⟨n - 1, d + 1, L, ?_, by omega, by omega, by omega, hdb.no (fun h0 => ?_)⟩
      · rw [wrapI (by omega)]; rfl
      · exact ⟨by show 0 ≤ L.getD (nx b.m y d).toNat 0; omega, by show L.getD (nx b.m y d).toNat 0 ≤ L.getD y.toNat 0 + stepC b k y d w; omega⟩

theorem F_pAsked (b : Brd) (ho : b.Ok) (k w i : Int) : Fun E0 48 [.agg b.cs, vI k, vI w, vI i] [] (.v (vB (okIn b k w i))) [] [] := by
  refine Fun_of_xc k48 rfl rfl (fun k q h => by cases h) ?_
  ((conv=>whnf);repeat((first|refine Ct ‹_› ?_|refine Cf ‹_› ?_|refine Ct rfl ?_|refine Cf rfl ?_|refine Bi rfl ?_|refine Bz rfl ?_|refine Lr ?_);conv=>whnf))
  (refine CallQ_some (F_bAt b ho k i) ?_ ?_ ?_; rfl; rfl); ((conv=>whnf);repeat((first|refine Ct ‹_› ?_|refine Cf ‹_› ?_|refine Ct rfl ?_|refine Cf rfl ?_|refine Bi rfl ?_|refine Bz rfl ?_|refine Lr ?_);conv=>whnf))
  refine Cnd_i (fun e1 => ?_) (fun g => ?_)
  · ((conv=>whnf);repeat((first|refine Ct ‹_› ?_|refine Cf ‹_› ?_|refine Ct rfl ?_|refine Cf rfl ?_|refine Bi rfl ?_|refine Bz rfl ?_|refine Lr ?_);conv=>whnf))
    (refine CallQ_some (F_l1In _ _ _) ?_ ?_ ?_; rfl; rfl); ((conv=>whnf);repeat((first|refine Ct ‹_› ?_|refine Cf ‹_› ?_|refine Ct rfl ?_|refine Cf rfl ?_|refine Bi rfl ?_|refine Bz rfl ?_|refine Lr ?_);conv=>whnf))
    refine ⟨?_, rfl, rfl⟩
    simp only [okIn, e1, Bool.true_and]
    rfl
  · ((conv=>whnf);repeat((first|refine Ct ‹_› ?_|refine Cf ‹_› ?_|refine Ct rfl ?_|refine Cf rfl ?_|refine Bi rfl ?_|refine Bz rfl ?_|refine Lr ?_);conv=>whnf))
    refine ⟨?_, rfl, rfl⟩
    simp only [okIn, g, Bool.false_and]
    rfl

theorem dL_len {b : Brd} (h : GB b) {k w i : Int} (k0 : 0 ≤ k ∧ k < b.r.knd.length) (w0 : 0 ≤ w ∧ w ≤ 2) (i0 : 0 ≤ i ∧ i < b.m.ter.length) (av : List Int) (bk : Bool) : (dL b k w i av bk).length = b.m.ter.length := (dL_ok h k0 w0 i0 av bk).len

theorem F_pFrom0 (b : Brd) (h : GB b) (k w i : Int) (k0 : 0 ≤ k ∧ k < b.r.knd.length) (w0 : 0 ≤ w ∧ w ≤ 2) (i0 : 0 ≤ i ∧ i < b.m.ter.length) :
    Fun E0 49 [.agg b.cs, vI k, vI w, vI i, .one (.ro 1 0 nog)] [] (.v (.one (.own 0 (dL b k w i [] false).length))) [(0, rwI (dL b k w i [] false))] [] :=
  FunNog (pre := [.agg b.cs, vI k, vI w, vI i]) (post := []) (F_pFrom b h k w i [] k0 w0 i0 (Nat.zero_le _))

theorem F_relaxed0 (b : Brd) (h : GB b) (k w i : Int) (bk : Bool) (k0 : 0 ≤ k ∧ k < b.r.knd.length) (w0 : 0 ≤ w ∧ w ≤ 2) (i0 : 0 ≤ i ∧ i < b.m.ter.length) :
    Fun E0 51 [.agg b.cs, vI k, vI w, vI i, vB bk, .one (.ro 1 0 nog)] [] (.v (.one (.own 0 (dL b k w i [] bk).length))) [(0, rwI (dL b k w i [] bk))] [] :=
  FunNog (pre := [.agg b.cs, vI k, vI w, vI i, vB bk]) (post := []) (F_relaxed b h k w i bk [] k0 w0 i0 (Nat.zero_le _))

structure HxB (q r : Int) : Prop where
  q : 0 ≤ q ∧ q ≤ 9
  r : 0 ≤ r ∧ r ≤ 9

structure PtB (q r n : Int) : Prop where
  n : 1 ≤ n ∧ n ≤ 18
  q : 0 ≤ q ∧ q ≤ 1000
  r : 0 ≤ r ∧ r ≤ 1000

/-! ### a place to meet -/
def betM (L L' : List Int) (x y : Int) : Prop := max (L.getD x.toNat 0) (L'.getD x.toNat 0) < max (L.getD y.toNat 0) (L'.getD y.toNat 0) ∨ (max (L.getD x.toNat 0) (L'.getD x.toNat 0) = max (L.getD y.toNat 0) (L'.getD y.toNat 0) ∧ L.getD x.toNat 0 + L'.getD x.toNat 0 < L.getD y.toNat 0 + L'.getD y.toNat 0)

instance (L L' : List Int) (x y : Int) : Decidable (betM L L' x y) := by unfold betM; infer_instance

/-! ### the farthest places -/
/-- the greatest of the first n, at least 0 -/
def mxN (L : List Int) : Nat → Int
  | 0 => 0
  | n + 1 => max (mxN L n) (L.getD n 0)

theorem mxN_ge (L : List Int) (n : Nat) : 0 ≤ mxN L n ∧ ∀ j, j < n → L.getD j 0 ≤ mxN L n := by
  induction n with
  | zero => exact ⟨Int.le_refl _, fun j hj => by omega⟩
  | succ n ih =>
    unfold mxN
    refine ⟨by omega, fun j hj => ?_⟩
    by_cases e : j = n
    · subst e; omega
    · have := ih.2 j (by omega); omega

theorem mxN_succ (L : List Int) {t : Int} (h0 : 0 ≤ t) : mxN L (t + 1).toNat = max (mxN L t.toNat) (L.getD t.toNat 0) := by
  rw [show (t + 1).toNat = t.toNat + 1 by omega, mxN]

theorem F_MaxI (L : List Int) (hl : L.length ≤ 1048576) (h1 : 1 ≤ L.length) (hp : ∃ j, j < L.length ∧ 0 ≤ L.getD j 0) : Fun E0 52 [.one (roI L)] [] (.v (vI (mxN L L.length))) [] [] := by
  refine Fun_of_xc k52 rfl rfl (fun k q h => by cases h) ?_
  ((conv=>whnf);repeat((first|refine Ct ‹_› ?_|refine Cf ‹_› ?_|refine Ct rfl ?_|refine Cf rfl ?_|refine Bi rfl ?_|refine Bz rfl ?_|refine Lr ?_);conv=>whnf))
  refine Cnd_f (decide_eq_false (by omega)) ?_
  ((conv=>whnf);repeat((first|refine Ct ‹_› ?_|refine Cf ‹_› ?_|refine Ct rfl ?_|refine Cf rfl ?_|refine Bi rfl ?_|refine Bz rfl ?_|refine Lr ?_);conv=>whnf))
  refine Bnd_i (⟨by omega, by omega⟩) ?_; ((conv=>whnf);repeat((first|refine Ct ‹_› ?_|refine Cf ‹_› ?_|refine Ct rfl ?_|refine Cf rfl ?_|refine Bi rfl ?_|refine Bz rfl ?_|refine Lr ?_);conv=>whnf))
  refine WLoop_v2 ⟨[0, 3, 4], [], []⟩ (fun (y t : Int) => hdS 25 [(0, .v (.one (roI L))), (3, .v (vI y)), (4, .v (vI t))] [] [])
    (fun n y t => 1 ≤ t ∧ t + n = L.length ∧ max 0 y = mxN L t.toNat ∧ ∀ j : Nat, (j : Int) < t → L.getD j 0 ≤ y) (L.length - 1) (L.getD 0 0) 1 rfl ⟨by omega, by omega, by rw [show (1 : Int).toNat = 0 + 1 by rfl, mxN, mxN], fun j hj => by rw [show j = 0 by omega]; exact Int.le_refl _⟩ ?_
  rintro n y t ⟨t1, t2, t3, t4⟩
  ((conv=>whnf);repeat((first|refine Ct ‹_› ?_|refine Cf ‹_› ?_|refine Ct rfl ?_|refine Cf rfl ?_|refine Bi rfl ?_|refine Bz rfl ?_|refine Lr ?_);conv=>whnf))
  refine Cnd_i (fun g => ?_) (fun g => ?_)
  · have ht := of_decide_eq_true g
    ((conv=>whnf);repeat((first|refine Ct ‹_› ?_|refine Cf ‹_› ?_|refine Ct rfl ?_|refine Cf rfl ?_|refine Bi rfl ?_|refine Bz rfl ?_|refine Lr ?_);conv=>whnf))
    refine Bnd_i (⟨by omega, ht⟩) ?_; ((conv=>whnf);repeat((first|refine Ct ‹_› ?_|refine Cf ‹_› ?_|refine Ct rfl ?_|refine Cf rfl ?_|refine Bi rfl ?_|refine Bz rfl ?_|refine Lr ?_);conv=>whnf))
    refine ⟨n - 1, max y (L.getD t.toNat 0), t + 1, ?_, by omega, by omega, by omega, ?_, fun j hj => ?_⟩
    · rw [mx_eq, wrapI (by omega)]; rfl
    · rw [mxN_succ L (by omega), ← t3]; omega
    · by_cases e : (j : Int) = t
      · rw [show j = t.toNat by omega]; omega
      · have := t4 j (by omega); omega
  · have ht := of_decide_eq_false g
    ((conv=>whnf);repeat((first|refine Ct ‹_› ?_|refine Cf ‹_› ?_|refine Ct rfl ?_|refine Cf rfl ?_|refine Bi rfl ?_|refine Bz rfl ?_|refine Lr ?_);conv=>whnf))
    have e1 : y = mxN L L.length := by
      rw [show t.toNat = L.length by omega] at t3
      obtain ⟨j, j1, j2⟩ := hp
      have := t4 j (by omega)
      omega
    rw [e1]
    exact ⟨rfl, rfl, rfl⟩

def isM (L : List Int) (m : Int) : Int → Bool := fun x => L.getD x.toNat 0 == m

noncomputable def frR (b : Brd) (k w i : Int) : Int × List Int × Bool := if okIn b k w i = true then (mxN (dL b k w i [] false) b.m.ter.length, selN (isM (dL b k w i [] false) (mxN (dL b k w i [] false) b.m.ter.length)) b.m.ter.length, true) else (0, [], false)

theorem frR_len (b : Brd) (k w i : Int) (ho : b.Ok) : (frR b k w i).2.1.length ≤ 1048576 := by
  unfold frR
  split
  · rename_i g
    exact selN_len (InOk.of ho g).gb _
  · exact Nat.zero_le _

theorem selN_none {p : Int → Bool} {n : Nat} (h : ∀ j : Nat, j < n → p (j : Int) = false) : selN p n = [] := by
  induction n with
  | zero => rfl
  | succ n ih =>
    unfold selN
    rw [if_neg (by rw [h n (by omega)]; simp)]
    exact ih (fun j hj => h j (by omega))

theorem F_FarthestFrom (b : Brd) (ho : b.Ok) (k w i : Int) :
    Fun E0 22 [.agg b.cs, vI k, vI w, vI i] [] (.tup [vI (frR b k w i).1, .one (.own 1 (frR b k w i).2.1.length), vB (frR b k w i).2.2]) [(1, rwI (frR b k w i).2.1)] [] := by
  refine Fun_of_xc k22 rfl rfl (nrC (rwI_no _) nrN) ?_
  ((conv=>whnf);repeat((first|refine Ct ‹_› ?_|refine Cf ‹_› ?_|refine Ct rfl ?_|refine Cf rfl ?_|refine Bi rfl ?_|refine Bz rfl ?_|refine Lr ?_);conv=>whnf))
  refine Rw_i (rwI []) (rwI_nil _) ?_
  ((conv=>whnf);repeat((first|refine Ct ‹_› ?_|refine Cf ‹_› ?_|refine Ct rfl ?_|refine Cf rfl ?_|refine Bi rfl ?_|refine Bz rfl ?_|refine Lr ?_);conv=>whnf))
  (refine CallQ_some (F_pAsked b ho k w i) ?_ ?_ ?_; rfl; rfl); ((conv=>whnf);repeat((first|refine Ct ‹_› ?_|refine Cf ‹_› ?_|refine Ct rfl ?_|refine Cf rfl ?_|refine Bi rfl ?_|refine Bz rfl ?_|refine Lr ?_);conv=>whnf))
  refine Cnd_i (fun g => ?_) (fun g => ?_)
  · have e0 : okIn b k w i = false := by simpa using g
    ((conv=>whnf);repeat((first|refine Ct ‹_› ?_|refine Cf ‹_› ?_|refine Ct rfl ?_|refine Cf rfl ?_|refine Bi rfl ?_|refine Bz rfl ?_|refine Lr ?_);conv=>whnf))
    refine Rw_i (rwI []) (rwI_nil _) ?_
    ((conv=>whnf);repeat((first|refine Ct ‹_› ?_|refine Cf ‹_› ?_|refine Ct rfl ?_|refine Cf rfl ?_|refine Bi rfl ?_|refine Bz rfl ?_|refine Lr ?_);conv=>whnf))
    rw [frR, e0]
    exact ⟨rfl, rfl, rfl⟩
  have e0 : okIn b k w i = true := by simpa using g
  have hi := InOk.of ho e0
  have hm := hi.gb.wh.mul
  have hn := hi.gb.n
  ((conv=>whnf);repeat((first|refine Ct ‹_› ?_|refine Cf ‹_› ?_|refine Ct rfl ?_|refine Cf rfl ?_|refine Bi rfl ?_|refine Bz rfl ?_|refine Lr ?_);conv=>whnf))
  refine Rw_i (rwI []) (rwI_nil _) ?_
  ((conv=>whnf);repeat((first|refine Ct ‹_› ?_|refine Cf ‹_› ?_|refine Ct rfl ?_|refine Cf rfl ?_|refine Bi rfl ?_|refine Bz rfl ?_|refine Lr ?_);conv=>whnf))
  (refine CallQ_some (F_pFrom0 b hi.gb k w i hi.k hi.w hi.i) ?_ ?_ ?_; rfl; rfl); ((conv=>whnf);repeat((first|refine Ct ‹_› ?_|refine Cf ‹_› ?_|refine Ct rfl ?_|refine Cf rfl ?_|refine Bi rfl ?_|refine Bz rfl ?_|refine Lr ?_);conv=>whnf))
  have hlen := dL_len hi.gb hi.k hi.w hi.i [] false
  have hR : frR b k w i = (mxN (dL b k w i [] false) b.m.ter.length, selN (isM (dL b k w i [] false) (mxN (dL b k w i [] false) b.m.ter.length)) b.m.ter.length, true) := by rw [frR, if_pos e0]
  rw [hR]
  generalize dL b k w i [] false = L at hlen ⊢
  clear hR
  refine WLoop_v3 ⟨[11, 12, 25, 26, 27], [], []⟩ (fun (y t : Int) (out : List Int) => hdS 46 [(11, .v (vI y)), (12, .v (.one (.own (vkey 12) out.length))), (25, .v (.one (.own (vkey 25) L.length))), (26, .v (vI L.length)), (27, .v (vI t))] [] [(vkey 12, rwI out), (vkey 25, rwI L)])
    (fun n y t out => 0 ≤ t ∧ t + n = L.length ∧ y = mxN L t.toNat ∧ out = selN (isM L y) t.toNat) L.length 0 0 [] rfl ⟨by omega, by omega, rfl, rfl⟩ ?_
  rintro n y t out ⟨h1, h2, h3, h4⟩
  have hle := selN_le (isM L y) t.toNat
  rw [← h4] at hle
  have hge := mxN_ge L t.toNat
  have hms := mxN_succ L h1
  rw [← h3] at hge hms
  ((conv=>whnf);repeat((first|refine Ct ‹_› ?_|refine Cf ‹_› ?_|refine Ct rfl ?_|refine Cf rfl ?_|refine Bi rfl ?_|refine Bz rfl ?_|refine Lr ?_);conv=>whnf))
  refine Cnd_i (fun g => ?_) (fun g => ?_)
  · have ht := of_decide_eq_true g
    ((conv=>whnf);repeat((first|refine Ct ‹_› ?_|refine Cf ‹_› ?_|refine Ct rfl ?_|refine Cf rfl ?_|refine Bi rfl ?_|refine Bz rfl ?_|refine Lr ?_);conv=>whnf))
    refine Bnd_i (⟨h1, ht⟩) ?_; ((conv=>whnf);repeat((first|refine Ct ‹_› ?_|refine Cf ‹_› ?_|refine Ct rfl ?_|refine Cf rfl ?_|refine Bi rfl ?_|refine Bz rfl ?_|refine Lr ?_);conv=>whnf))
    refine Cnd_i (fun g2 => ?_) (fun g2 => ?_)
    · have d2 := of_decide_eq_true g2
      have e1 : mxN L (t + 1).toNat = L.getD t.toNat 0 := by omega
      have e2 : [t] = selN (isM L (L.getD t.toNat 0)) (t + 1).toNat := by
        rw [show (t + 1).toNat = t.toNat + 1 by omega, selN, selN_none (fun j hj => by
          have := hge.2 j hj
          show (L.getD ((j : Int)).toNat 0 == L.getD t.toNat 0) = false
          rw [show ((j : Int)).toNat = j by omega]
          simp only [beq_eq_false_iff_ne]; omega), if_pos (by show (L.getD ((t.toNat : Nat) : Int).toNat 0 == L.getD t.toNat 0) = true; rw [show ((t.toNat : Nat) : Int).toNat = t.toNat by omega]; simp), show ((t.toNat : Nat) : Int) = t by omega]; rfl
      ((conv=>whnf);repeat((first|refine Ct ‹_› ?_|refine Cf ‹_› ?_|refine Ct rfl ?_|refine Cf rfl ?_|refine Bi rfl ?_|refine Bz rfl ?_|refine Lr ?_);conv=>whnf))
      refine Rw_i (rwI []) (rwI_nil _) ?_
      ((conv=>whnf);repeat((first|refine Ct ‹_› ?_|refine Cf ‹_› ?_|refine Ct rfl ?_|refine Cf rfl ?_|refine Bi rfl ?_|refine Bz rfl ?_|refine Lr ?_);conv=>whnf))
      refine Cnd_t (by simp) ?_
      ((conv=>whnf);repeat((first|refine Ct ‹_› ?_|refine Cf ‹_› ?_|refine Ct rfl ?_|refine Cf rfl ?_|refine Bi rfl ?_|refine Bz rfl ?_|refine Lr ?_);conv=>whnf))
      refine Rw_self ?_
      ((conv=>whnf);repeat((first|refine Ct ‹_› ?_|refine Cf ‹_› ?_|refine Ct rfl ?_|refine Cf rfl ?_|refine Bi rfl ?_|refine Bz rfl ?_|refine Lr ?_);conv=>whnf))
      refine Bnd_i (by show 0 + 1 < _; omega) ?_
      ((conv=>whnf);repeat((first|refine Ct ‹_› ?_|refine Cf ‹_› ?_|refine Ct rfl ?_|refine Cf rfl ?_|refine Bi rfl ?_|refine Bz rfl ?_|refine Lr ?_);conv=>whnf))
      refine Rw_i (rwI [t]) (rwI_app [] t _ rfl) ?_
      ((conv=>whnf);repeat((first|refine Ct ‹_› ?_|refine Cf ‹_› ?_|refine Ct rfl ?_|refine Cf rfl ?_|refine Bi rfl ?_|refine Bz rfl ?_|refine Lr ?_);conv=>whnf))
      refine ⟨n - 1, L.getD t.toNat 0, t + 1, [t], ?_, by omega, by omega, by omega, e1.symm, e2⟩
      rw [wrapI (by omega)]; rfl
    · have d2 := of_decide_eq_false g2
      have e1 : y = mxN L (t + 1).toNat := by omega
      have hnx : selN (isM L y) (t + 1).toNat = if isM L y t = true then out ++ [t] else out := by
        rw [show (t + 1).toNat = t.toNat + 1 by omega, selN, ← h4, show ((t.toNat : Nat) : Int) = t by omega]
      ((conv=>whnf);repeat((first|refine Ct ‹_› ?_|refine Cf ‹_› ?_|refine Ct rfl ?_|refine Cf rfl ?_|refine Bi rfl ?_|refine Bz rfl ?_|refine Lr ?_);conv=>whnf))
      refine Cnd_i (fun g3 => ?_) (fun g3 => ?_)
      · ((conv=>whnf);repeat((first|refine Ct ‹_› ?_|refine Cf ‹_› ?_|refine Ct rfl ?_|refine Cf rfl ?_|refine Bi rfl ?_|refine Bz rfl ?_|refine Lr ?_);conv=>whnf))
        refine Rw_self ?_
        ((conv=>whnf);repeat((first|refine Ct ‹_› ?_|refine Cf ‹_› ?_|refine Ct rfl ?_|refine Cf rfl ?_|refine Bi rfl ?_|refine Bz rfl ?_|refine Lr ?_);conv=>whnf))
        refine Bnd_i ?_ ?_
        · show out.length + 1 < _
          omega
        ((conv=>whnf);repeat((first|refine Ct ‹_› ?_|refine Cf ‹_› ?_|refine Ct rfl ?_|refine Cf rfl ?_|refine Bi rfl ?_|refine Bz rfl ?_|refine Lr ?_);conv=>whnf))
        refine Rw_i (rwI (out ++ [t])) (rwI_app _ _ _ rfl) ?_
        ((conv=>whnf);repeat((first|refine Ct ‹_› ?_|refine Cf ‹_› ?_|refine Ct rfl ?_|refine Cf rfl ?_|refine Bi rfl ?_|refine Bz rfl ?_|refine Lr ?_);conv=>whnf))
        rw [if_pos (show isM L y t = true from g3)] at hnx
        refine ⟨n - 1, y, t + 1, out ++ [t], ?_, by omega, by omega, by omega, e1, hnx.symm⟩
        rw [wrapI (by omega)]; rfl
      · ((conv=>whnf);repeat((first|refine Ct ‹_› ?_|refine Cf ‹_› ?_|refine Ct rfl ?_|refine Cf rfl ?_|refine Bi rfl ?_|refine Bz rfl ?_|refine Lr ?_);conv=>whnf))
        rw [if_neg (by rw [show isM L y t = false from g3]; simp)] at hnx
        refine ⟨n - 1, y, t + 1, out, ?_, by omega, by omega, by omega, e1, hnx.symm⟩
        rw [wrapI (by omega)]; rfl
  · have ht := of_decide_eq_false g
    have e1 : t.toNat = b.m.ter.length := by omega
    rw [e1] at h3 h4
    ((conv=>whnf);repeat((first|refine Ct ‹_› ?_|refine Cf ‹_› ?_|refine Ct rfl ?_|refine Cf rfl ?_|refine Bi rfl ?_|refine Bz rfl ?_|refine Lr ?_);conv=>whnf))
    rw [h4, h3]
    exact ⟨rfl, rfl, rfl⟩

theorem F_FarthestFrom_1 (L : List Int) (m i : Int) (i0 : 0 ≤ i) (i1 : i < L.length) :
    Fun E0 54 [vI i, .one (.pro 1 fun j => nth [roI L] j), .one (.pro 1 fun j => nth [cI m] j)] [] (.v (vB (isM L m i))) [] [] := by
  refine Fun_of_xc k54 rfl rfl (fun k q h => by cases h) ?_
  ((conv=>whnf);repeat((first|refine Ct ‹_› ?_|refine Cf ‹_› ?_|refine Ct rfl ?_|refine Cf rfl ?_|refine Bi rfl ?_|refine Bz rfl ?_|refine Lr ?_);conv=>whnf))
  refine Bnd_i (⟨i0, i1⟩) ?_; ((conv=>whnf);repeat((first|refine Ct ‹_› ?_|refine Cf ‹_› ?_|refine Ct rfl ?_|refine Cf rfl ?_|refine Bi rfl ?_|refine Bz rfl ?_|refine Lr ?_);conv=>whnf))
  exact ⟨rfl, rfl, rfl⟩

theorem F_FarthestFromI (b : Brd) (ho : b.Ok) (k w i : Int) :
    Fun E0 23 [.agg b.cs, vI k, vI w, vI i] [] (.tup [vI (frR b k w i).1, .one (.own 1 (frR b k w i).2.1.length), vB (frR b k w i).2.2]) [(1, rwI (frR b k w i).2.1)] [] := by
  refine Fun_of_xc k23 rfl rfl (nrC (rwI_no _) nrN) ?_
  ((conv=>whnf);repeat((first|refine Ct ‹_› ?_|refine Cf ‹_› ?_|refine Ct rfl ?_|refine Cf rfl ?_|refine Bi rfl ?_|refine Bz rfl ?_|refine Lr ?_);conv=>whnf))
  refine Rw_i (rwI []) (rwI_nil _) ?_
  ((conv=>whnf);repeat((first|refine Ct ‹_› ?_|refine Cf ‹_› ?_|refine Ct rfl ?_|refine Cf rfl ?_|refine Bi rfl ?_|refine Bz rfl ?_|refine Lr ?_);conv=>whnf))
  (refine CallQ_some (F_isMover b ho k w i) ?_ ?_ ?_; rfl; rfl); ((conv=>whnf);repeat((first|refine Ct ‹_› ?_|refine Cf ‹_› ?_|refine Ct rfl ?_|refine Cf rfl ?_|refine Bi rfl ?_|refine Bz rfl ?_|refine Lr ?_);conv=>whnf))
  refine Cnd_i (fun g => ?_) (fun g => ?_)
  · have e0 : okIn b k w i = false := by simpa using g
    ((conv=>whnf);repeat((first|refine Ct ‹_› ?_|refine Cf ‹_› ?_|refine Ct rfl ?_|refine Cf rfl ?_|refine Bi rfl ?_|refine Bz rfl ?_|refine Lr ?_);conv=>whnf))
    refine Rw_i (rwI []) (rwI_nil _) ?_
    ((conv=>whnf);repeat((first|refine Ct ‹_› ?_|refine Cf ‹_› ?_|refine Ct rfl ?_|refine Cf rfl ?_|refine Bi rfl ?_|refine Bz rfl ?_|refine Lr ?_);conv=>whnf))
    rw [frR, e0]
    exact ⟨rfl, rfl, rfl⟩
  have e0 : okIn b k w i = true := by simpa using g
  have hi := InOk.of ho e0
  have hm := hi.gb.wh.mul
  have hn := hi.gb.n
  ((conv=>whnf);repeat((first|refine Ct ‹_› ?_|refine Cf ‹_› ?_|refine Ct rfl ?_|refine Cf rfl ?_|refine Bi rfl ?_|refine Bz rfl ?_|refine Lr ?_);conv=>whnf))
  (refine CallQ_some (F_relaxed0 b hi.gb k w i false hi.k hi.w hi.i) ?_ ?_ ?_; rfl; rfl); ((conv=>whnf);repeat((first|refine Ct ‹_› ?_|refine Cf ‹_› ?_|refine Ct rfl ?_|refine Cf rfl ?_|refine Bi rfl ?_|refine Bz rfl ?_|refine Lr ?_);conv=>whnf))
  have hlen := dL_len hi.gb hi.k hi.w hi.i [] false
  have hii := hi.i
  have hz : ∃ j, j < (dL b k w i [] false).length ∧ 0 ≤ (dL b k w i [] false).getD j 0 := ⟨i.toNat, by omega, ((dL_ok hi.gb hi.k hi.w hi.i [] false).lst i.toNat 0 (by omega) (by rw [show ((i.toNat : Nat) : Int) = i by omega]; exact .nil)).1⟩
  have hR : frR b k w i = (mxN (dL b k w i [] false) b.m.ter.length, selN (isM (dL b k w i [] false) (mxN (dL b k w i [] false) b.m.ter.length)) b.m.ter.length, true) := by rw [frR, if_pos e0]
  rw [hR]
  generalize dL b k w i [] false = L at hlen hz ⊢
  clear hR
  (refine CallQ_some (F_MaxI L (by omega) (by omega) hz) ?_ ?_ ?_; rfl; rfl); ((conv=>whnf);repeat((first|refine Ct ‹_› ?_|refine Cf ‹_› ?_|refine Ct rfl ?_|refine Cf rfl ?_|refine Bi rfl ?_|refine Bz rfl ?_|refine Lr ?_);conv=>whnf))
  (refine CallQ_some (F_hexesThat b hi.gb (isM L (mxN L L.length)) 54 2 _ _ [.one (.pro 1 fun j => nth [roI L] j), .one (.pro 1 fun j => nth [cI (mxN L L.length)] j)] rfl (fun i i0 i1 => F_FarthestFrom_1 L _ i i0 (by omega))) ?_ ?_ ?_; rfl; rfl); ((conv=>whnf);repeat((first|refine Ct ‹_› ?_|refine Cf ‹_› ?_|refine Ct rfl ?_|refine Cf rfl ?_|refine Bi rfl ?_|refine Bz rfl ?_|refine Lr ?_);conv=>whnf))
  rw [← hlen]
  exact ⟨rfl, rfl, rfl⟩

theorem F_FnExactFarthestFrom (x0 : Brd) (x1 : Int) (x2 : Int) (x3 : Int) (o0 : x0.Ok) (o1 : i64 x1) (o2 : i64 x2) (o3 : i64 x3) :
    Fun E0 5 [.agg x0.cs, vI x1, vI x2, vI x3] [] (.v (vB true)) [] [] := by
  have hS := F_FarthestFrom x0 o0 x1 x2 x3
  have hI := F_FarthestFromI x0 o0 x1 x2 x3
  have hr1 : (frR x0 x1 x2 x3).2.1.length ≤ 1048576 := frR_len x0 x1 x2 x3 o0
  revert hS hI hr1
  generalize frR x0 x1 x2 x3 = RR
  obtain ⟨r0, r1, r2⟩ := RR
  intro hS hI hr1
  dsimp only at hS
  dsimp only at hI
  dsimp only at hr1
  refine Fun_of_xc k5 rfl rfl (fun k q h => by cases h) ?_
  ((conv=>whnf);repeat((first|refine Ct ‹_› ?_|refine Cf ‹_› ?_|refine Ct rfl ?_|refine Cf rfl ?_|refine Bi rfl ?_|refine Bz rfl ?_|refine Lr ?_);conv=>whnf))
  (refine CallQ_some (F_szBoard x0 o0 1048576 (by omega) (by omega)) ?_ ?_ ?_; rfl; rfl); ((conv=>whnf);repeat((first|refine Ct ‹_› ?_|refine Cf ‹_› ?_|refine Ct rfl ?_|refine Cf rfl ?_|refine Bi rfl ?_|refine Bz rfl ?_|refine Lr ?_);conv=>whnf))
  refine Cnd_i (fun g => ?_) (fun g => ?_)
  · ((conv=>whnf);repeat((first|refine Ct ‹_› ?_|refine Cf ‹_› ?_|refine Ct rfl ?_|refine Cf rfl ?_|refine Bi rfl ?_|refine Bz rfl ?_|refine Lr ?_);conv=>whnf))
    exact ⟨rfl, rfl, rfl⟩
  have sm0 := szB_sm (b := x0) (x := 1048576) (by omega) (by omega) (of_decide_eq_false g)
  have s0 := sm0.1
  have sb0 := sm0.2
  have sc0 := of_decide_eq_false g
  ((conv=>whnf);repeat((first|refine Ct ‹_› ?_|refine Cf ‹_› ?_|refine Ct rfl ?_|refine Cf rfl ?_|refine Bi rfl ?_|refine Bz rfl ?_|refine Lr ?_);conv=>whnf))
  (refine CallQ_some (F_toBoard x0 s0) ?_ ?_ ?_; rfl; rfl); ((conv=>whnf);repeat((first|refine Ct ‹_› ?_|refine Cf ‹_› ?_|refine Ct rfl ?_|refine Cf rfl ?_|refine Bi rfl ?_|refine Bz rfl ?_|refine Lr ?_);conv=>whnf))
  refine CallQ_eq (snapB x0 _) ?_
  (refine CallQ_some (hS) ?_ ?_ ?_; rfl; rfl); ((conv=>whnf);repeat((first|refine Ct ‹_› ?_|refine Cf ‹_› ?_|refine Ct rfl ?_|refine Cf rfl ?_|refine Bi rfl ?_|refine Bz rfl ?_|refine Lr ?_);conv=>whnf))
  (refine CallQ_some (F_toBoard x0 s0) ?_ ?_ ?_; rfl; rfl); ((conv=>whnf);repeat((first|refine Ct ‹_› ?_|refine Cf ‹_› ?_|refine Ct rfl ?_|refine Cf rfl ?_|refine Bi rfl ?_|refine Bz rfl ?_|refine Lr ?_);conv=>whnf))
  refine CallQ_eq (snapB x0 _) ?_
  (refine CallQ_some (hI) ?_ ?_ ?_; rfl; rfl); ((conv=>whnf);repeat((first|refine Ct ‹_› ?_|refine Cf ‹_› ?_|refine Ct rfl ?_|refine Cf rfl ?_|refine Bi rfl ?_|refine Bz rfl ?_|refine Lr ?_);conv=>whnf))
  repeat (refine Cnd_f (by simp) ?_; ((conv=>whnf);repeat((first|refine Ct ‹_› ?_|refine Cf ‹_› ?_|refine Ct rfl ?_|refine Cf rfl ?_|refine Bi rfl ?_|refine Bz rfl ?_|refine Lr ?_);conv=>whnf)))
  (refine CallQ_some (F_eqIntS r1 hr1) ?_ ?_ ?_; rfl; rfl); ((conv=>whnf);repeat((first|refine Ct ‹_› ?_|refine Cf ‹_› ?_|refine Ct rfl ?_|refine Cf rfl ?_|refine Bi rfl ?_|refine Bz rfl ?_|refine Lr ?_);conv=>whnf))
  repeat (refine Cnd_f (by simp) ?_; ((conv=>whnf);repeat((first|refine Ct ‹_› ?_|refine Cf ‹_› ?_|refine Ct rfl ?_|refine Cf rfl ?_|refine Bi rfl ?_|refine Bz rfl ?_|refine Lr ?_);conv=>whnf)))
  repeat (refine Cnd_f (by simp) ?_; ((conv=>whnf);repeat((first|refine Ct ‹_› ?_|refine Cf ‹_› ?_|refine Ct rfl ?_|refine Cf rfl ?_|refine Bi rfl ?_|refine Bz rfl ?_|refine Lr ?_);conv=>whnf)))
  (refine CallQ_some (F_toBoard x0 s0) ?_ ?_ ?_; rfl; rfl); ((conv=>whnf);repeat((first|refine Ct ‹_› ?_|refine Cf ‹_› ?_|refine Ct rfl ?_|refine Cf rfl ?_|refine Bi rfl ?_|refine Bz rfl ?_|refine Lr ?_);conv=>whnf))
  refine CallQ_eq (snapBB x0) ?_
  (refine CallQ_some (F_eqBoard x0 s0) ?_ ?_ ?_; rfl; rfl); ((conv=>whnf);repeat((first|refine Ct ‹_› ?_|refine Cf ‹_› ?_|refine Ct rfl ?_|refine Cf rfl ?_|refine Bi rfl ?_|refine Bz rfl ?_|refine Lr ?_);conv=>whnf))
  refine CallR_e (F_markBoard x0 s0 1 (by omega) (by omega)) ?_
  rintro _ _ o' ⟨k0, ka0, kb0, rfl, rfl, hs⟩
  obtain ⟨⟨_, q0⟩, ⟨_, q1⟩, ⟨_, q2⟩, ⟨_, q3⟩, ⟨_, q4⟩, rfl, ⟨⟩, ⟨⟩, ⟨⟩, ⟨⟩, ⟨⟩, t0, t1, t2, t3, t4⟩ := shape5 hs
  refine ⟨⟨rfl, t0.1, t0.2.1, t0.2.2, rfl, t1.1, t1.2.1, t1.2.2, rfl, t2.1, t2.2.1, t2.2.2, rfl, t3.1, t3.2.1, t3.2.2, rfl, t4.1, t4.2.1, t4.2.2, trivial⟩, rfl, rfl, ?_⟩
  conv => whnf
  refine ⟨rfl, ?_⟩
  ((conv=>whnf);repeat((first|refine Ct ‹_› ?_|refine Cf ‹_› ?_|refine Ct rfl ?_|refine Cf rfl ?_|refine Bi rfl ?_|refine Bz rfl ?_|refine Lr ?_);conv=>whnf))
  have hkn : decide ((k0 : Int) < 0) = false := decide_eq_false (by omega)
  ((conv=>whnf);repeat((first|refine Ct ‹_› ?_|refine Cf ‹_› ?_|refine Ct rfl ?_|refine Cf rfl ?_|refine Bi rfl ?_|refine Bz rfl ?_|refine Lr ?_);conv=>whnf))
  repeat (refine Cnd_f (by simp) ?_; ((conv=>whnf);repeat((first|refine Ct ‹_› ?_|refine Cf ‹_› ?_|refine Ct rfl ?_|refine Cf rfl ?_|refine Bi rfl ?_|refine Bz rfl ?_|refine Lr ?_);conv=>whnf)))
  (refine CallQ_some (F_eqIntS r1 hr1) ?_ ?_ ?_; rfl; rfl); ((conv=>whnf);repeat((first|refine Ct ‹_› ?_|refine Cf ‹_› ?_|refine Ct rfl ?_|refine Cf rfl ?_|refine Bi rfl ?_|refine Bz rfl ?_|refine Lr ?_);conv=>whnf))
  repeat (refine Cnd_f (by simp) ?_; ((conv=>whnf);repeat((first|refine Ct ‹_› ?_|refine Cf ‹_› ?_|refine Ct rfl ?_|refine Cf rfl ?_|refine Bi rfl ?_|refine Bz rfl ?_|refine Lr ?_);conv=>whnf)))
  repeat (refine Cnd_f (by simp) ?_; ((conv=>whnf);repeat((first|refine Ct ‹_› ?_|refine Cf ‹_› ?_|refine Ct rfl ?_|refine Cf rfl ?_|refine Bi rfl ?_|refine Bz rfl ?_|refine Lr ?_);conv=>whnf)))
  (refine CallR_some (F_markIntS r1 1 hr1 (by omega) (by omega)) (by repeat (first | exact trivial | refine ⟨rfl, rfl, rfl, rfl, ?_⟩)) ?_ ?_ ?_ ?_; rfl; rfl; rfl); ((conv=>whnf);repeat((first|refine Ct ‹_› ?_|refine Cf ‹_› ?_|refine Ct rfl ?_|refine Cf rfl ?_|refine Bi rfl ?_|refine Bz rfl ?_|refine Lr ?_);conv=>whnf))
  (refine CallQ_some (F_heldIntS 1 r1.length hr1 (by omega) (by omega)) ?_ ?_ ?_; rfl; rfl); ((conv=>whnf);repeat((first|refine Ct ‹_› ?_|refine Cf ‹_› ?_|refine Ct rfl ?_|refine Cf rfl ?_|refine Bi rfl ?_|refine Bz rfl ?_|refine Lr ?_);conv=>whnf))
  have hq0 : decide (1 + (r1.length : Int) < 0) = false := decide_eq_false (by omega)
  ((conv=>whnf);repeat((first|refine Ct ‹_› ?_|refine Cf ‹_› ?_|refine Ct rfl ?_|refine Cf rfl ?_|refine Bi rfl ?_|refine Bz rfl ?_|refine Lr ?_);conv=>whnf))
  repeat (refine Cnd_f (by simp) ?_; ((conv=>whnf);repeat((first|refine Ct ‹_› ?_|refine Cf ‹_› ?_|refine Ct rfl ?_|refine Cf rfl ?_|refine Bi rfl ?_|refine Bz rfl ?_|refine Lr ?_);conv=>whnf)))
  (refine CallQ_some (F_toBoard x0 s0) ?_ ?_ ?_; rfl; rfl); ((conv=>whnf);repeat((first|refine Ct ‹_› ?_|refine Cf ‹_› ?_|refine Ct rfl ?_|refine Cf rfl ?_|refine Bi rfl ?_|refine Bz rfl ?_|refine Lr ?_);conv=>whnf))
  refine CallQ_eq (snapB x0 _) ?_
  (refine CallQ_some (hI) ?_ ?_ ?_; rfl; rfl); ((conv=>whnf);repeat((first|refine Ct ‹_› ?_|refine Cf ‹_› ?_|refine Ct rfl ?_|refine Cf rfl ?_|refine Bi rfl ?_|refine Bz rfl ?_|refine Lr ?_);conv=>whnf))
  repeat (refine Cnd_f (by simp) ?_; ((conv=>whnf);repeat((first|refine Ct ‹_› ?_|refine Cf ‹_› ?_|refine Ct rfl ?_|refine Cf rfl ?_|refine Bi rfl ?_|refine Bz rfl ?_|refine Lr ?_);conv=>whnf)))
  (refine CallQ_some (F_eqIntS r1 hr1) ?_ ?_ ?_; rfl; rfl); ((conv=>whnf);repeat((first|refine Ct ‹_› ?_|refine Cf ‹_› ?_|refine Ct rfl ?_|refine Cf rfl ?_|refine Bi rfl ?_|refine Bz rfl ?_|refine Lr ?_);conv=>whnf))
  repeat (refine Cnd_f (by simp) ?_; ((conv=>whnf);repeat((first|refine Ct ‹_› ?_|refine Cf ‹_› ?_|refine Ct rfl ?_|refine Cf rfl ?_|refine Bi rfl ?_|refine Bz rfl ?_|refine Lr ?_);conv=>whnf)))
  repeat (refine Cnd_f (by simp) ?_; ((conv=>whnf);repeat((first|refine Ct ‹_› ?_|refine Cf ‹_› ?_|refine Ct rfl ?_|refine Cf rfl ?_|refine Bi rfl ?_|refine Bz rfl ?_|refine Lr ?_);conv=>whnf)))
  (refine CallQ_some (F_heldIntS 1 r1.length hr1 (by omega) (by omega)) ?_ ?_ ?_; rfl; rfl); ((conv=>whnf);repeat((first|refine Ct ‹_› ?_|refine Cf ‹_› ?_|refine Ct rfl ?_|refine Cf rfl ?_|refine Bi rfl ?_|refine Bz rfl ?_|refine Lr ?_);conv=>whnf))
  repeat (refine Cnd_f (by simp) ?_; ((conv=>whnf);repeat((first|refine Ct ‹_› ?_|refine Cf ‹_› ?_|refine Ct rfl ?_|refine Cf rfl ?_|refine Bi rfl ?_|refine Bz rfl ?_|refine Lr ?_);conv=>whnf)))
  exact ⟨rfl, rfl, rfl⟩
end Go.Proofs.YtfaobjghedlfoaaDoor.Ab
