/- Contracts of the functions that FnExactTurnsNeeded reaches, by the abstract machine (part 2).
   Conditions: none. -/
import Derived.Test.YtbcohkgcakgpcaaDoorCTurnsNeeded1
set_option linter.unusedVariables false
set_option linter.unusedSimpArgs false
namespace Go.Proofs.YtbcohkgcakgpcaaDoor.Ab
open Go Go.RowKit
attribute [local irreducible] Cnd Bnd Rw CallQ CallR Bts Isn Lc WLoop
set_option maxRecDepth 100000
set_option maxHeartbeats 1000000
theorem F_turnsTo (b : Brd) (h : GB b) (k w i : Int) (k0 : 0 ≤ k ∧ k < b.r.knd.length) (w0 : 0 ≤ w ∧ w ≤ 2) (i0 : 0 ≤ i ∧ i < b.m.ter.length) :
    Fun E0 51 [.agg b.cs, vI k, vI w, vI i] [] (.v (.one (.own 0 (tnT b k w i).length))) [(0, rwI (tnT b k w i))] [] := by
  have hm := h.wh.mul
  have hn := h.n
  have hmv := movK_b h k0
  have he := eok_H h k0 w0 hmv
  have hs0 : (0 : Int) ≤ (movK b k) := hmv.1
  have hM : (movK b k) + 1100 * (b.m.ter.length : Int) + 1100 < ((200000 : Nat) : Int) := by omega
  refine Fun_of_xc k51 rfl rfl (nrC (rwI_no _) nrN) ?_
  ((conv=>whnf);repeat((first|refine Ct ‹_› ?_|refine Cf ‹_› ?_|refine Ct rfl ?_|refine Cf rfl ?_|refine Bi rfl ?_|refine Bz rfl ?_|refine Lr ?_);conv=>whnf))
  refine Rw_i (rwI []) (rwI_nil _) ?_
  ((conv=>whnf);repeat((first|refine Ct ‹_› ?_|refine Cf ‹_› ?_|refine Ct rfl ?_|refine Cf rfl ?_|refine Bi rfl ?_|refine Bz rfl ?_|refine Lr ?_);conv=>whnf))
  refine Bnd_i (⟨k0.1, k0.2⟩) ?_; ((conv=>whnf);repeat((first|refine Ct ‹_› ?_|refine Cf ‹_› ?_|refine Ct rfl ?_|refine Cf rfl ?_|refine Bi rfl ?_|refine Bz rfl ?_|refine Lr ?_);conv=>whnf))
  (refine CallQ_some (F_sizeOf b) ?_ ?_ ?_; rfl; rfl); ((conv=>whnf);repeat((first|refine Ct ‹_› ?_|refine Cf ‹_› ?_|refine Ct rfl ?_|refine Cf rfl ?_|refine Bi rfl ?_|refine Bz rfl ?_|refine Lr ?_);conv=>whnf))
  rw [← show movK b k = (b.r.knd.getD k.toNat Knd.d).mov from rfl]
  refine Bnd_i (by omega) ?_
  ((conv=>whnf);repeat((first|refine Ct ‹_› ?_|refine Cf ‹_› ?_|refine Ct rfl ?_|refine Cf rfl ?_|refine Bi rfl ?_|refine Bz rfl ?_|refine Lr ?_);conv=>whnf))
  refine Rw_i (rwIn b.m.ter.length (List.replicate b.m.ter.length 0)) (rwIn_zero _) ?_
  ((conv=>whnf);repeat((first|refine Ct ‹_› ?_|refine Cf ‹_› ?_|refine Ct rfl ?_|refine Cf rfl ?_|refine Bi rfl ?_|refine Bz rfl ?_|refine Lr ?_);conv=>whnf))
  refine WLoop_v2 ⟨[1, 2, 3, 4, 9, 10, 30, 31], [4], []⟩ (fun (t : Int) (L : List Int) => hdS 110 [(1, .v (vI k)), (2, .v (vI w)), (3, .v (vI i)), (4, .v (.one (.box 4 0))), (9, .v (vI (movK b k))), (10, .v (.one (.own (vkey 10) b.m.ter.length))), (30, .v (vI b.m.ter.length)), (31, .v (vI t))] [(4, b.cs)] [(vkey 10, rwIn b.m.ter.length L)])
    (fun n t L => 0 ≤ t ∧ t + n = b.m.ter.length ∧ L.length = b.m.ter.length ∧ ∀ j : Nat, (j : Int) < t → L.getD j 0 = -1) b.m.ter.length 0 (List.replicate b.m.ter.length 0) rfl ⟨by omega, by omega, by simp, fun j hj => by omega⟩ ?_
  rintro n t L ⟨h1, h2, hlen, h3⟩
  ((conv=>whnf);repeat((first|refine Ct ‹_› ?_|refine Cf ‹_› ?_|refine Ct rfl ?_|refine Cf rfl ?_|refine Bi rfl ?_|refine Bz rfl ?_|refine Lr ?_);conv=>whnf))
  refine Cnd_i (fun g => ?_) (fun g => ?_)
  · have ht := of_decide_eq_true g
    ((conv=>whnf);repeat((first|refine Ct ‹_› ?_|refine Cf ‹_› ?_|refine Ct rfl ?_|refine Cf rfl ?_|refine Bi rfl ?_|refine Bz rfl ?_|refine Lr ?_);conv=>whnf))
    refine Bnd_i (⟨h1, ht⟩) ?_; ((conv=>whnf);repeat((first|refine Ct ‹_› ?_|refine Cf ‹_› ?_|refine Ct rfl ?_|refine Cf rfl ?_|refine Bi rfl ?_|refine Bz rfl ?_|refine Lr ?_);conv=>whnf))
    refine Rw_i (rwIn b.m.ter.length (L.set t.toNat (-1))) (rwIn_set _ _ _ _ (by omega)) ?_
    ((conv=>whnf);repeat((first|refine Ct ‹_› ?_|refine Cf ‹_› ?_|refine Ct rfl ?_|refine Cf rfl ?_|refine Bi rfl ?_|refine Bz rfl ?_|refine Lr ?_);conv=>whnf))
    refine ⟨n - 1, t + 1, L.set t.toNat (-1), ?_, by omega, by omega, by omega, by simp [hlen], fun j hj => ?_⟩
    · rw [wrapI (by omega)]; rfl
    · rw [getD_set _ _ _ _ (by omega)]
      split
      · rfl
      · exact h3 j (by omega)
  have ht := of_decide_eq_false g
  have hL := all_neg1 hlen (fun j hj => h3 j (by omega))
  subst hL
  clear h1 h2 h3 hlen g ht
  ((conv=>whnf);repeat((first|refine Ct ‹_› ?_|refine Cf ‹_› ?_|refine Ct rfl ?_|refine Cf rfl ?_|refine Bi rfl ?_|refine Bz rfl ?_|refine Lr ?_);conv=>whnf))
  refine Bnd_i (⟨i0.1, i0.2⟩) ?_; ((conv=>whnf);repeat((first|refine Ct ‹_› ?_|refine Cf ‹_› ?_|refine Ct rfl ?_|refine Cf rfl ?_|refine Bi rfl ?_|refine Bz rfl ?_|refine Lr ?_);conv=>whnf))
  refine Rw_i (rwIn b.m.ter.length ((List.replicate b.m.ter.length (-1)).set i.toNat (movK b k))) (rwIn_set _ _ _ _ (by simp; omega)) ?_
  ((conv=>whnf);repeat((first|refine Ct ‹_› ?_|refine Cf ‹_› ?_|refine Ct rfl ?_|refine Cf rfl ?_|refine Bi rfl ?_|refine Bz rfl ?_|refine Lr ?_);conv=>whnf))
  have hin : Rlx b.m.ter.length (fH (movK b k)) (tEg b k w (movK b k)) (movK b k) 1100 i ((List.replicate b.m.ter.length (-1)).set i.toNat (movK b k)) := Rlx.init (by omega) hs0 i0
  refine WLoop_v2 ⟨[1, 2, 4, 9, 10, 12], [4], []⟩ (fun (c : Bool) (L : List Int) => hdS 110 [(1, .v (vI k)), (2, .v (vI w)), (4, .v (.one (.box 4 0))), (9, .v (vI (movK b k))), (10, .v (.one (.own (vkey 10) b.m.ter.length))), (12, .v (vB c))] [(4, b.cs)] [(vkey 10, rwIn b.m.ter.length L)])
    (fun n c L => n = 2 * mu 200000 L + (if c = true then 1 else 0) ∧ Rlx b.m.ter.length (fH (movK b k)) (tEg b k w (movK b k)) (movK b k) 1100 i L ∧ (c = false → Dst b.m.ter.length (fH (movK b k)) (tEg b k w (movK b k)) (movK b k) i L)) _ true _ rfl ⟨rfl, hin, fun h => by cases h⟩ ?_
  rintro n0 c0 L0 ⟨hn0, hr0, hd0⟩
  ((conv=>whnf);repeat((first|refine Ct ‹_› ?_|refine Cf ‹_› ?_|refine Ct rfl ?_|refine Cf rfl ?_|refine Bi rfl ?_|refine Bz rfl ?_|refine Lr ?_);conv=>whnf))
  refine Cnd_i (fun g => ?_) (fun g => ?_)
  rotate_left
  · have hd := hd0 g
    ((conv=>whnf);repeat((first|refine Ct ‹_› ?_|refine Cf ‹_› ?_|refine Ct rfl ?_|refine Cf rfl ?_|refine Bi rfl ?_|refine Bz rfl ?_|refine Lr ?_);conv=>whnf))
    have e1 : tnT b k w i = L0 := hd.eq.symm
    rw [e1, rwIn_eq hd.len, hd.len]
    exact ⟨rfl, rfl, rfl⟩
  subst g
  ((conv=>whnf);repeat((first|refine Ct ‹_› ?_|refine Cf ‹_› ?_|refine Ct rfl ?_|refine Cf rfl ?_|refine Bi rfl ?_|refine Bz rfl ?_|refine Lr ?_);conv=>whnf))
  refine WLoop_v3 ⟨[1, 2, 4, 9, 10, 12, 44, 45], [4], [(43, 10)]⟩ (fun (x : Int) (c : Bool) (L : List Int) => hdS 110 [(1, .v (vI k)), (2, .v (vI w)), (4, .v (.one (.box 4 0))), (9, .v (vI (movK b k))), (10, .v (.one (.own (vkey 10) b.m.ter.length))), (12, .v (vB c)), (43, .v (.one (.own (vkey 10) b.m.ter.length))), (44, .v (vI b.m.ter.length)), (45, .v (vI x))] [(4, b.cs)] [(vkey 10, rwIn b.m.ter.length L)])
    (fun n x c L => 0 ≤ x ∧ x + n = b.m.ter.length ∧ Swp b.m.ter.length (fH (movK b k)) (bCo b k w) (nx b.m) (tP (movK b k)) false (movK b k) 1100 i 200000 L0 x 0 L c) b.m.ter.length 0 false L0 rfl ⟨by omega, by omega, Swp.init hr0⟩ ?_
  rintro m x c L ⟨x1, x2, hsw⟩
  ((conv=>whnf);repeat((first|refine Ct ‹_› ?_|refine Cf ‹_› ?_|refine Ct rfl ?_|refine Cf rfl ?_|refine Bi rfl ?_|refine Bz rfl ?_|refine Lr ?_);conv=>whnf))
  refine Cnd_i (fun g => ?_) (fun g => ?_)
  rotate_left
  · have hx := of_decide_eq_false g
    ((conv=>whnf);repeat((first|refine Ct ‹_› ?_|refine Cf ‹_› ?_|refine Ct rfl ?_|refine Cf rfl ?_|refine Bi rfl ?_|refine Bz rfl ?_|refine Lr ?_);conv=>whnf))
    cases c with
    | true =>
      have := hsw.lt rfl
      refine ⟨2 * mu 200000 L + 1, true, L, rfl, by rw [hn0, if_pos rfl]; omega, rfl, hsw.r, fun h => by cases h⟩
    | false =>
      obtain ⟨e1, _⟩ := hsw.eq rfl
      refine ⟨2 * mu 200000 L, false, L, rfl, by rw [hn0, if_pos rfl, e1]; omega, rfl, hsw.r, fun _ => hsw.fin (by omega) he hs0 i0⟩
  have hx := of_decide_eq_true g
  ((conv=>whnf);repeat((first|refine Ct ‹_› ?_|refine Cf ‹_› ?_|refine Ct rfl ?_|refine Cf rfl ?_|refine Bi rfl ?_|refine Bz rfl ?_|refine Lr ?_);conv=>whnf))
  refine Bnd_i (⟨x1, hx⟩) ?_; ((conv=>whnf);repeat((first|refine Ct ‹_› ?_|refine Cf ‹_› ?_|refine Ct rfl ?_|refine Cf rfl ?_|refine Bi rfl ?_|refine Bz rfl ?_|refine Lr ?_);conv=>whnf))
  refine WLoop_v3 ⟨[1, 2, 4, 9, 10, 12, 13, 14, 44, 45, 50], [4], [(43, 10)]⟩ (fun (d : Int) (c : Bool) (L' : List Int) => hdS 110 [(1, .v (vI k)), (2, .v (vI w)), (4, .v (.one (.box 4 0))), (9, .v (vI (movK b k))), (10, .v (.one (.own (vkey 10) b.m.ter.length))), (12, .v (vB c)), (13, .v (vI x)), (14, .v (vI (L.getD x.toNat 0))), (43, .v (.one (.own (vkey 10) b.m.ter.length))), (44, .v (vI b.m.ter.length)), (45, .v (vI x)), (50, .v (vI d))] [(4, b.cs)] [(vkey 10, rwIn b.m.ter.length L')])
    (fun n d c L' => 0 ≤ d ∧ d + n = 6 ∧ Swp b.m.ter.length (fH (movK b k)) (bCo b k w) (nx b.m) (tP (movK b k)) false (movK b k) 1100 i 200000 L0 x d L' c ∧ L'.getD x.toNat 0 = L.getD x.toNat 0) 6 0 c L rfl ⟨by omega, by omega, hsw, rfl⟩ ?_
  clear hsw
  generalize L.getD x.toNat 0 = a
  rintro n d c L ⟨h1, h2, hsw, ha⟩
  have hlen := hsw.r.len
  have hx : 0 ≤ x ∧ x < b.m.ter.length := ⟨x1, hx⟩
  ((conv=>whnf);repeat((first|refine Ct ‹_› ?_|refine Cf ‹_› ?_|refine Ct rfl ?_|refine Cf rfl ?_|refine Bi rfl ?_|refine Bz rfl ?_|refine Lr ?_);conv=>whnf))
  refine Cnd_i (fun g => ?_) (fun g => ?_)
  rotate_left
  · have hd := of_decide_eq_false g
    ((conv=>whnf);repeat((first|refine Ct ‹_› ?_|refine Cf ‹_› ?_|refine Ct rfl ?_|refine Cf rfl ?_|refine Bi rfl ?_|refine Bz rfl ?_|refine Lr ?_);conv=>whnf))
    obtain rfl : d = 6 := by omega
    refine ⟨m - 1, x + 1, c, L, ?_, by omega, by omega, by omega, hsw.nxt⟩
    rw [wrapI (by omega)]; rfl
  have hd := of_decide_eq_true g
  have hsb := stepC_b h (i := x) (d := d) k0 w0
  ((conv=>whnf);repeat((first|refine Ct ‹_› ?_|refine Cf ‹_› ?_|refine Ct rfl ?_|refine Cf rfl ?_|refine Bi rfl ?_|refine Bz rfl ?_|refine Lr ?_);conv=>whnf))
  (refine CallQ_some (F_stepCost b h k x d w k0.1 k0.2 hx.1 hx.2 h1 (by omega) w0.1 w0.2) ?_ ?_ ?_; rfl; rfl); ((conv=>whnf);repeat((first|refine Ct ‹_› ?_|refine Cf ‹_› ?_|refine Ct rfl ?_|refine Cf rfl ?_|refine Bi rfl ?_|refine Bz rfl ?_|refine Lr ?_);conv=>whnf))
  refine Cnd_i (fun g => ?_) (fun g => ?_)
  · have d1 := of_decide_eq_true g
    ((conv=>whnf);repeat((first|refine Ct ‹_› ?_|refine Cf ‹_› ?_|refine Ct rfl ?_|refine Cf rfl ?_|refine Bi rfl ?_|refine Bz rfl ?_|refine Lr ?_);conv=>whnf))
    refine ⟨n - 1, d + 1, c, L, ?_, by omega, by omega, by omega, hsw.no (fun h0 => ?_), ha⟩
    · rw [wrapI (n := d + 1) (by omega)]; rfl
    · have h0 : 0 ≤ L.getD x.toNat 0 := h0
      omega
  have d1 := of_decide_eq_false g
  have ga : 0 ≤ L.getD x.toNat 0 := by omega
  ((conv=>whnf);repeat((first|refine Ct ‹_› ?_|refine Cf ‹_› ?_|refine Ct rfl ?_|refine Cf rfl ?_|refine Bi rfl ?_|refine Bz rfl ?_|refine Lr ?_);conv=>whnf))
  refine Cnd_i (fun g2 => ?_) (fun g2 => ?_)
  · have e2 : stepC b k x d w = 0 := by simpa using g2
    ((conv=>whnf);repeat((first|refine Ct ‹_› ?_|refine Cf ‹_› ?_|refine Ct rfl ?_|refine Cf rfl ?_|refine Bi rfl ?_|refine Bz rfl ?_|refine Lr ?_);conv=>whnf))
    refine ⟨n - 1, IntKind.i64.wrap (d + 1), c, L, by kernel_rfl, by omega, ?_⟩
    rw [wrapI (n := d + 1) (by omega)]
    exact ⟨by omega, by omega, hsw.skip (.inl e2), ha⟩
  have e2 : stepC b k x d w ≠ 0 := by simpa using g2
  have hnx := hsb.2.2 e2
  ((conv=>whnf);repeat((first|refine Ct ‹_› ?_|refine Cf ‹_› ?_|refine Ct rfl ?_|refine Cf rfl ?_|refine Bi rfl ?_|refine Bz rfl ?_|refine Lr ?_);conv=>whnf))
  refine Cnd_i (fun g3 => ?_) (fun g3 => ?_)
  · have d3 := of_decide_eq_true g3
    ((conv=>whnf);repeat((first|refine Ct ‹_› ?_|refine Cf ‹_› ?_|refine Ct rfl ?_|refine Cf rfl ?_|refine Bi rfl ?_|refine Bz rfl ?_|refine Lr ?_);conv=>whnf))
    refine ⟨n - 1, IntKind.i64.wrap (d + 1), c, L, by kernel_rfl, by omega, ?_⟩
    rw [wrapI (n := d + 1) (by omega)]
    exact ⟨by omega, by omega, hsw.skip (.inr (decide_eq_false (by show ¬ stepC b k x d w ≤ movK b k; omega))), ha⟩
  have d3 := of_decide_eq_false g3
  have e3 : tP (movK b k) (nx b.m x d) (bCo b k w x d) = true := decide_eq_true (by show stepC b k x d w ≤ movK b k; omega)
  have bd1 := hsw.r.bound (by omega) x.toNat (by omega)
  have bd2 := hsw.r.bound (by omega) (nx b.m x d).toNat (by omega)
  have lw2 := hsw.r.low (nx b.m x d).toNat (by omega)
  have hmod := wM (a := a) (c := stepC b k x d w) (q := 100) (by omega) (by omega) (by omega)
  ((conv=>whnf);repeat((first|refine Ct ‹_› ?_|refine Cf ‹_› ?_|refine Ct rfl ?_|refine Cf rfl ?_|refine Bi rfl ?_|refine Bz rfl ?_|refine Lr ?_);conv=>whnf))
  refine Cnd_i (fun g8 => ?_) (fun g8 => ?_)
  · have d8 := of_decide_eq_true g8
    rw [hmod] at d8
    have hE : IntKind.i64.wrap (IntKind.i64.wrap (IntKind.i64.wrap (IntKind.i64.wrap (a.tdiv 100) + 1) * 100) + stepC b k x d w) = fH (movK b k) a (stepC b k x d w) := by
      rw [wH (by omega) (by omega), fH, if_pos d8]
    ((conv=>whnf);repeat((first|refine Ct ‹_› ?_|refine Cf ‹_› ?_|refine Ct rfl ?_|refine Cf rfl ?_|refine Bi rfl ?_|refine Bz rfl ?_|refine Lr ?_);conv=>whnf))
    (refine CallQ_some (F_nextTo b.m h.wh x d hx.1 (by omega) h1 (by omega)) ?_ ?_ ?_; rfl; rfl); ((conv=>whnf);repeat((first|refine Ct ‹_› ?_|refine Cf ‹_› ?_|refine Ct rfl ?_|refine Cf rfl ?_|refine Bi rfl ?_|refine Bz rfl ?_|refine Lr ?_);conv=>whnf))
    have hinf := ((fH_ok hmv (w := stepC b k x d w) (by omega)).2 (L.getD x.toNat 0) ga).1
    rw [ha] at hinf
    refine Bnd_i (⟨hnx.1, hnx.2⟩) ?_; ((conv=>whnf);repeat((first|refine Ct ‹_› ?_|refine Cf ‹_› ?_|refine Ct rfl ?_|refine Cf rfl ?_|refine Bi rfl ?_|refine Bz rfl ?_|refine Lr ?_);conv=>whnf))
    refine Cnd_i (fun g6 => ?_) (fun g6 => ?_)
    · have d6 := of_decide_eq_true g6
      ((conv=>whnf);repeat((first|refine Ct ‹_› ?_|refine Cf ‹_› ?_|refine Ct rfl ?_|refine Cf rfl ?_|refine Bi rfl ?_|refine Bz rfl ?_|refine Lr ?_);conv=>whnf))
      refine Bnd_i (⟨hnx.1, hnx.2⟩) ?_; ((conv=>whnf);repeat((first|refine Ct ‹_› ?_|refine Cf ‹_› ?_|refine Ct rfl ?_|refine Cf rfl ?_|refine Bi rfl ?_|refine Bz rfl ?_|refine Lr ?_);conv=>whnf))
      refine Rw_i (rwIn b.m.ter.length (L.set (nx b.m x d).toNat (fH (movK b k) a (stepC b k x d w)))) (by rw [hE]; exact rwIn_set _ _ _ _ (by rw [hlen]; omega)) ?_
      ((conv=>whnf);repeat((first|refine Ct ‹_› ?_|refine Cf ‹_› ?_|refine Ct rfl ?_|refine Cf rfl ?_|refine Bi rfl ?_|refine Bz rfl ?_|refine Lr ?_);conv=>whnf))
      have hsy := hsw.yes (j := x) (k := nx b.m x d) he hs0 i0 hM hx ⟨h1, by omega⟩ e2 e3 rfl rfl ga (.inl d6)
      rw [ha] at hsy
      refine ⟨n - 1, IntKind.i64.wrap (d + 1), true, L.set (nx b.m x d).toNat (fH (movK b k) a (stepC b k x d w)), by kernel_rfl, by omega, ?_⟩
      rw [wrapI (n := d + 1) (by omega)]
      exact ⟨by omega, by omega, hsy, (by rw [getD_set _ _ _ _ (by rw [hlen]; omega)]; split; (rename_i e9; rw [e9] at ha; omega); exact ha)⟩
    · have d6 := of_decide_eq_false g6
      ((conv=>whnf);repeat((first|refine Ct ‹_› ?_|refine Cf ‹_› ?_|refine Ct rfl ?_|refine Cf rfl ?_|refine Bi rfl ?_|refine Bz rfl ?_|refine Lr ?_);conv=>whnf))
      refine Bnd_i (⟨hnx.1, hnx.2⟩) ?_; ((conv=>whnf);repeat((first|refine Ct ‹_› ?_|refine Cf ‹_› ?_|refine Ct rfl ?_|refine Cf rfl ?_|refine Bi rfl ?_|refine Bz rfl ?_|refine Lr ?_);conv=>whnf))
      refine Cnd_e (c' := decide (fH (movK b k) a (stepC b k x d w) < L.getD (nx b.m x d).toNat 0)) (by rw [hE]) ?_
      refine Cnd_i (fun g7 => ?_) (fun g7 => ?_)
      · have d7 := of_decide_eq_true g7
        ((conv=>whnf);repeat((first|refine Ct ‹_› ?_|refine Cf ‹_› ?_|refine Ct rfl ?_|refine Cf rfl ?_|refine Bi rfl ?_|refine Bz rfl ?_|refine Lr ?_);conv=>whnf))
        refine Bnd_i (⟨hnx.1, hnx.2⟩) ?_; ((conv=>whnf);repeat((first|refine Ct ‹_› ?_|refine Cf ‹_› ?_|refine Ct rfl ?_|refine Cf rfl ?_|refine Bi rfl ?_|refine Bz rfl ?_|refine Lr ?_);conv=>whnf))
        refine Rw_i (rwIn b.m.ter.length (L.set (nx b.m x d).toNat (fH (movK b k) a (stepC b k x d w)))) (by rw [hE]; exact rwIn_set _ _ _ _ (by rw [hlen]; omega)) ?_
        ((conv=>whnf);repeat((first|refine Ct ‹_› ?_|refine Cf ‹_› ?_|refine Ct rfl ?_|refine Cf rfl ?_|refine Bi rfl ?_|refine Bz rfl ?_|refine Lr ?_);conv=>whnf))
        have hsy := hsw.yes (j := x) (k := nx b.m x d) he hs0 i0 hM hx ⟨h1, by omega⟩ e2 e3 rfl rfl ga (.inr (by rw [ha]; exact d7))
        rw [ha] at hsy
        refine ⟨n - 1, IntKind.i64.wrap (d + 1), true, L.set (nx b.m x d).toNat (fH (movK b k) a (stepC b k x d w)), by kernel_rfl, by omega, ?_⟩
        rw [wrapI (n := d + 1) (by omega)]
        exact ⟨by omega, by omega, hsy, (by rw [getD_set _ _ _ _ (by rw [hlen]; omega)]; split; (rename_i e9; rw [e9] at ha; omega); exact ha)⟩
      · have d7 := of_decide_eq_false g7
        ((conv=>whnf);repeat((first|refine Ct ‹_› ?_|refine Cf ‹_› ?_|refine Ct rfl ?_|refine Cf rfl ?_|refine Bi rfl ?_|refine Bz rfl ?_|refine Lr ?_);conv=>whnf))
        refine ⟨n - 1, IntKind.i64.wrap (d + 1), c, L, by kernel_rfl, by omega, ?_⟩
        rw [wrapI (n := d + 1) (by omega)]
        refine ⟨by omega, by omega, hsw.no (fun h0 => ?_), ha⟩
        · exact ⟨by show 0 ≤ L.getD (nx b.m x d).toNat 0; omega, by show L.getD (nx b.m x d).toNat 0 ≤ fH (movK b k) (L.getD x.toNat 0) (stepC b k x d w); rw [ha]; omega⟩
  · have d8 := of_decide_eq_false g8
    rw [hmod] at d8
    have hE : IntKind.i64.wrap (a + stepC b k x d w) = fH (movK b k) a (stepC b k x d w) := by
      rw [wrapI (by omega), fH, if_neg d8]
    ((conv=>whnf);repeat((first|refine Ct ‹_› ?_|refine Cf ‹_› ?_|refine Ct rfl ?_|refine Cf rfl ?_|refine Bi rfl ?_|refine Bz rfl ?_|refine Lr ?_);conv=>whnf))
    (refine CallQ_some (F_nextTo b.m h.wh x d hx.1 (by omega) h1 (by omega)) ?_ ?_ ?_; rfl; rfl); ((conv=>whnf);repeat((first|refine Ct ‹_› ?_|refine Cf ‹_› ?_|refine Ct rfl ?_|refine Cf rfl ?_|refine Bi rfl ?_|refine Bz rfl ?_|refine Lr ?_);conv=>whnf))
    have hinf := ((fH_ok hmv (w := stepC b k x d w) (by omega)).2 (L.getD x.toNat 0) ga).1
    rw [ha] at hinf
    refine Bnd_i (⟨hnx.1, hnx.2⟩) ?_; ((conv=>whnf);repeat((first|refine Ct ‹_› ?_|refine Cf ‹_› ?_|refine Ct rfl ?_|refine Cf rfl ?_|refine Bi rfl ?_|refine Bz rfl ?_|refine Lr ?_);conv=>whnf))
    refine Cnd_i (fun g6 => ?_) (fun g6 => ?_)
    · have d6 := of_decide_eq_true g6
      ((conv=>whnf);repeat((first|refine Ct ‹_› ?_|refine Cf ‹_› ?_|refine Ct rfl ?_|refine Cf rfl ?_|refine Bi rfl ?_|refine Bz rfl ?_|refine Lr ?_);conv=>whnf))
      refine Bnd_i (⟨hnx.1, hnx.2⟩) ?_; ((conv=>whnf);repeat((first|refine Ct ‹_› ?_|refine Cf ‹_› ?_|refine Ct rfl ?_|refine Cf rfl ?_|refine Bi rfl ?_|refine Bz rfl ?_|refine Lr ?_);conv=>whnf))
      refine Rw_i (rwIn b.m.ter.length (L.set (nx b.m x d).toNat (fH (movK b k) a (stepC b k x d w)))) (by rw [hE]; exact rwIn_set _ _ _ _ (by rw [hlen]; omega)) ?_
      ((conv=>whnf);repeat((first|refine Ct ‹_› ?_|refine Cf ‹_› ?_|refine Ct rfl ?_|refine Cf rfl ?_|refine Bi rfl ?_|refine Bz rfl ?_|refine Lr ?_);conv=>whnf))
      have hsy := hsw.yes (j := x) (k := nx b.m x d) he hs0 i0 hM hx ⟨h1, by omega⟩ e2 e3 rfl rfl ga (.inl d6)
      rw [ha] at hsy
      refine ⟨n - 1, IntKind.i64.wrap (d + 1), true, L.set (nx b.m x d).toNat (fH (movK b k) a (stepC b k x d w)), by kernel_rfl, by omega, ?_⟩
      rw [wrapI (n := d + 1) (by omega)]
      exact ⟨by omega, by omega, hsy, (by rw [getD_set _ _ _ _ (by rw [hlen]; omega)]; split; (rename_i e9; rw [e9] at ha; omega); exact ha)⟩
    · have d6 := of_decide_eq_false g6
      ((conv=>whnf);repeat((first|refine Ct ‹_› ?_|refine Cf ‹_› ?_|refine Ct rfl ?_|refine Cf rfl ?_|refine Bi rfl ?_|refine Bz rfl ?_|refine Lr ?_);conv=>whnf))
      refine Bnd_i (⟨hnx.1, hnx.2⟩) ?_; ((conv=>whnf);repeat((first|refine Ct ‹_› ?_|refine Cf ‹_› ?_|refine Ct rfl ?_|refine Cf rfl ?_|refine Bi rfl ?_|refine Bz rfl ?_|refine Lr ?_);conv=>whnf))
      refine Cnd_e (c' := decide (fH (movK b k) a (stepC b k x d w) < L.getD (nx b.m x d).toNat 0)) (by rw [hE]) ?_
      refine Cnd_i (fun g7 => ?_) (fun g7 => ?_)
      · have d7 := of_decide_eq_true g7
        ((conv=>whnf);repeat((first|refine Ct ‹_› ?_|refine Cf ‹_› ?_|refine Ct rfl ?_|refine Cf rfl ?_|refine Bi rfl ?_|refine Bz rfl ?_|refine Lr ?_);conv=>whnf))
        refine Bnd_i (⟨hnx.1, hnx.2⟩) ?_; ((conv=>whnf);repeat((first|refine Ct ‹_› ?_|refine Cf ‹_› ?_|refine Ct rfl ?_|refine Cf rfl ?_|refine Bi rfl ?_|refine Bz rfl ?_|refine Lr ?_);conv=>whnf))
        refine Rw_i (rwIn b.m.ter.length (L.set (nx b.m x d).toNat (fH (movK b k) a (stepC b k x d w)))) (by rw [hE]; exact rwIn_set _ _ _ _ (by rw [hlen]; omega)) ?_
        ((conv=>whnf);repeat((first|refine Ct ‹_› ?_|refine Cf ‹_› ?_|refine Ct rfl ?_|refine Cf rfl ?_|refine Bi rfl ?_|refine Bz rfl ?_|refine Lr ?_);conv=>whnf))
        have hsy := hsw.yes (j := x) (k := nx b.m x d) he hs0 i0 hM hx ⟨h1, by omega⟩ e2 e3 rfl rfl ga (.inr (by rw [ha]; exact d7))
        rw [ha] at hsy
        refine ⟨n - 1, IntKind.i64.wrap (d + 1), true, L.set (nx b.m x d).toNat (fH (movK b k) a (stepC b k x d w)), by kernel_rfl, by omega, ?_⟩
        rw [wrapI (n := d + 1) (by omega)]
        exact ⟨by omega, by omega, hsy, (by rw [getD_set _ _ _ _ (by rw [hlen]; omega)]; split; (rename_i e9; rw [e9] at ha; omega); exact ha)⟩
      · have d7 := of_decide_eq_false g7
        ((conv=>whnf);repeat((first|refine Ct ‹_› ?_|refine Cf ‹_› ?_|refine Ct rfl ?_|refine Cf rfl ?_|refine Bi rfl ?_|refine Bz rfl ?_|refine Lr ?_);conv=>whnf))
        refine ⟨n - 1, IntKind.i64.wrap (d + 1), c, L, by kernel_rfl, by omega, ?_⟩
        rw [wrapI (n := d + 1) (by omega)]
        refine ⟨by omega, by omega, hsw.no (fun h0 => ?_), ha⟩
        · exact ⟨by show 0 ≤ L.getD (nx b.m x d).toNat 0; omega, by show L.getD (nx b.m x d).toNat 0 ≤ fH (movK b k) (L.getD x.toNat 0) (stepC b k x d w); rw [ha]; omega⟩

noncomputable def tneR (b : Brd) (k w i x : Int) : Int × Bool := if okTr b k w i x = true then if decide ((tnS b k w i).getD x.toNat 0 < 0) = true then (0, false) else (if x = i then 0 else ((tnS b k w i).getD x.toNat 0).tdiv 1000 + 1, true) else (0, false)

theorem tn_both {b : Brd} (h : GB b) {k w i : Int} (k0 : 0 ≤ k ∧ k < b.r.knd.length) (w0 : 0 ≤ w ∧ w ≤ 2) (i0 : 0 ≤ i ∧ i < b.m.ter.length) :
    (tnS b k w i).length = b.m.ter.length ∧ (tnT b k w i).length = b.m.ter.length ∧ ∀ x : Int, 0 ≤ x → x < b.m.ter.length → (-1 ≤ (tnS b k w i).getD x.toNat 0 ∧ (tnS b k w i).getD x.toNat 0 ≤ 200000) ∧ ((tnT b k w i).getD x.toNat 0 < 0 ↔ (tnS b k w i).getD x.toNat 0 < 0) ∧ (0 ≤ (tnS b k w i).getD x.toNat 0 → ((tnT b k w i).getD x.toNat 0).tdiv 100 = if x = i then 0 else ((tnS b k w i).getD x.toNat 0).tdiv 1000 + 1) := by
  have hmv := movK_b h k0
  have hm := h.wh.mul
  have hn := h.n
  have hS := dstL_ok (eok_T h k0 w0 hmv) (Int.le_refl 0) i0
  have hT := dstL_ok (eok_H h k0 w0 hmv) hmv.1 i0
  refine ⟨hS.len, hT.len, fun x x0 x1 => ?_⟩
  have hle := dstL_le (eok_T h k0 w0 hmv) (Int.le_refl 0) i0 x.toNat (by omega)
  have hlo := hS.low x.toNat (by omega)
  have := turns_eq hmv (fun j k' c hg => (tEg_b h k0 w0 hg).2) hS hT x.toNat (by omega)
  rw [show ((x.toNat : Nat) : Int) = x by omega] at this
  exact ⟨⟨hlo, by show (dstL _ _ _ _ _).getD x.toNat 0 ≤ 200000; omega⟩, this⟩

theorem F_TurnsNeeded (b : Brd) (ho : b.Ok) (k w i x : Int) : Fun E0 17 [.agg b.cs, vI k, vI w, vI i, vI x] [] (.tup [vI (tneR b k w i x).1, vB (tneR b k w i x).2]) [] [] := by
  refine Fun_of_xc k17 rfl rfl (fun k q h => by cases h) ?_
  ((conv=>whnf);repeat((first|refine Ct ‹_› ?_|refine Cf ‹_› ?_|refine Ct rfl ?_|refine Cf rfl ?_|refine Bi rfl ?_|refine Bz rfl ?_|refine Lr ?_);conv=>whnf))
  (refine CallQ_some (F_pAsked b ho k w i) ?_ ?_ ?_; rfl; rfl); ((conv=>whnf);repeat((first|refine Ct ‹_› ?_|refine Cf ‹_› ?_|refine Ct rfl ?_|refine Cf rfl ?_|refine Bi rfl ?_|refine Bz rfl ?_|refine Lr ?_);conv=>whnf))
  refine Cnd_i (fun g => ?_) (fun g => ?_)
  · have e0 : okIn b k w i = false := by simpa using g
    ((conv=>whnf);repeat((first|refine Ct ‹_› ?_|refine Cf ‹_› ?_|refine Ct rfl ?_|refine Cf rfl ?_|refine Bi rfl ?_|refine Bz rfl ?_|refine Lr ?_);conv=>whnf))
    rw [tneR, okTr, e0]
    exact ⟨rfl, rfl, rfl⟩
  have e1 : okIn b k w i = true := by simpa using g
  ((conv=>whnf);repeat((first|refine Ct ‹_› ?_|refine Cf ‹_› ?_|refine Ct rfl ?_|refine Cf rfl ?_|refine Bi rfl ?_|refine Bz rfl ?_|refine Lr ?_);conv=>whnf))
  (refine CallQ_some (F_pAsked b ho k w x) ?_ ?_ ?_; rfl; rfl); ((conv=>whnf);repeat((first|refine Ct ‹_› ?_|refine Cf ‹_› ?_|refine Ct rfl ?_|refine Cf rfl ?_|refine Bi rfl ?_|refine Bz rfl ?_|refine Lr ?_);conv=>whnf))
  refine Cnd_i (fun g => ?_) (fun g => ?_)
  · have e0 : okIn b k w x = false := by simpa using g
    ((conv=>whnf);repeat((first|refine Ct ‹_› ?_|refine Cf ‹_› ?_|refine Ct rfl ?_|refine Cf rfl ?_|refine Bi rfl ?_|refine Bz rfl ?_|refine Lr ?_);conv=>whnf))
    rw [tneR, okTr, e1, e0]
    exact ⟨rfl, rfl, rfl⟩
  have e2 : okIn b k w x = true := by simpa using g
  have e0 : okTr b k w i x = true := by rw [okTr, e1, e2]; rfl
  obtain ⟨hi, hx⟩ := TrOk ho e0
  obtain ⟨l1, l2, l3⟩ := tn_both hi.gb hi.k hi.w hi.i
  have l4 := l3 x hx.1 hx.2
  ((conv=>whnf);repeat((first|refine Ct ‹_› ?_|refine Cf ‹_› ?_|refine Ct rfl ?_|refine Cf rfl ?_|refine Bi rfl ?_|refine Bz rfl ?_|refine Lr ?_);conv=>whnf))
  (refine CallQ_some (F_pTurns b hi.gb k w i hi.k hi.w hi.i) ?_ ?_ ?_; rfl; rfl); ((conv=>whnf);repeat((first|refine Ct ‹_› ?_|refine Cf ‹_› ?_|refine Ct rfl ?_|refine Cf rfl ?_|refine Bi rfl ?_|refine Bz rfl ?_|refine Lr ?_);conv=>whnf))
  refine Bnd_i (⟨hx.1, by omega⟩) ?_; ((conv=>whnf);repeat((first|refine Ct ‹_› ?_|refine Cf ‹_› ?_|refine Ct rfl ?_|refine Cf rfl ?_|refine Bi rfl ?_|refine Bz rfl ?_|refine Lr ?_);conv=>whnf))
  refine Cnd_i (fun g => ?_) (fun g => ?_)
  · ((conv=>whnf);repeat((first|refine Ct ‹_› ?_|refine Cf ‹_› ?_|refine Ct rfl ?_|refine Cf rfl ?_|refine Bi rfl ?_|refine Bz rfl ?_|refine Lr ?_);conv=>whnf))
    rw [tneR, e0, if_pos rfl, if_pos g]
    exact ⟨rfl, rfl, rfl⟩
  have hR : tneR b k w i x = (if x = i then 0 else ((tnS b k w i).getD x.toNat 0).tdiv 1000 + 1, true) := by rw [tneR, e0, if_pos rfl, if_neg (by rw [g]; simp)]
  rw [hR]
  ((conv=>whnf);repeat((first|refine Ct ‹_› ?_|refine Cf ‹_› ?_|refine Ct rfl ?_|refine Cf rfl ?_|refine Bi rfl ?_|refine Bz rfl ?_|refine Lr ?_);conv=>whnf))
  refine Cnd_i (fun g2 => ?_) (fun g2 => ?_)
  · have g2 : i = x := by simpa using g2
    ((conv=>whnf);repeat((first|refine Ct ‹_› ?_|refine Cf ‹_› ?_|refine Ct rfl ?_|refine Cf rfl ?_|refine Bi rfl ?_|refine Bz rfl ?_|refine Lr ?_);conv=>whnf))
    rw [if_pos g2.symm]
    exact ⟨rfl, rfl, rfl⟩
  · have g2 : ¬ i = x := by simpa using g2
    have g := of_decide_eq_false g
    have : 0 ≤ ((tnS b k w i).getD x.toNat 0).tdiv 1000 ∧ ((tnS b k w i).getD x.toNat 0).tdiv 1000 ≤ 200 := by rw [Int.tdiv_eq_ediv_of_nonneg (by omega)]; omega
    ((conv=>whnf);repeat((first|refine Ct ‹_› ?_|refine Cf ‹_› ?_|refine Ct rfl ?_|refine Cf rfl ?_|refine Bi rfl ?_|refine Bz rfl ?_|refine Lr ?_);conv=>whnf))
    rw [if_neg (fun e => g2 e.symm)]
    refine ⟨?_, rfl, rfl⟩
    rw [wrapI (n := ((tnS b k w i).getD x.toNat 0).tdiv 1000) (by omega), wrapI (by omega)]; rfl

theorem F_TurnsNeededI (b : Brd) (ho : b.Ok) (k w i x : Int) : Fun E0 18 [.agg b.cs, vI k, vI w, vI i, vI x] [] (.tup [vI (tneR b k w i x).1, vB (tneR b k w i x).2]) [] [] := by
  refine Fun_of_xc k18 rfl rfl (fun k q h => by cases h) ?_
  ((conv=>whnf);repeat((first|refine Ct ‹_› ?_|refine Cf ‹_› ?_|refine Ct rfl ?_|refine Cf rfl ?_|refine Bi rfl ?_|refine Bz rfl ?_|refine Lr ?_);conv=>whnf))
  (refine CallQ_some (F_isTrip b ho k w i x) ?_ ?_ ?_; rfl; rfl); ((conv=>whnf);repeat((first|refine Ct ‹_› ?_|refine Cf ‹_› ?_|refine Ct rfl ?_|refine Cf rfl ?_|refine Bi rfl ?_|refine Bz rfl ?_|refine Lr ?_);conv=>whnf))
  refine Cnd_i (fun g => ?_) (fun g => ?_)
  · have e0 : okTr b k w i x = false := by first | (rwa [Bool.not_eq_true'] at g) | (rwa [Bool.not_eq_false'] at g) | (simpa using g)
    ((conv=>whnf);repeat((first|refine Ct ‹_› ?_|refine Cf ‹_› ?_|refine Ct rfl ?_|refine Cf rfl ?_|refine Bi rfl ?_|refine Bz rfl ?_|refine Lr ?_);conv=>whnf))
    rw [tneR, e0]
    exact ⟨rfl, rfl, rfl⟩
  have e0 : okTr b k w i x = true := by first | (rwa [Bool.not_eq_true'] at g) | (rwa [Bool.not_eq_false'] at g) | (simpa using g)
  obtain ⟨hi, hx⟩ := TrOk ho e0
  obtain ⟨l1, l2, l3⟩ := tn_both hi.gb hi.k hi.w hi.i
  have l4 := l3 x hx.1 hx.2
  ((conv=>whnf);repeat((first|refine Ct ‹_› ?_|refine Cf ‹_› ?_|refine Ct rfl ?_|refine Cf rfl ?_|refine Bi rfl ?_|refine Bz rfl ?_|refine Lr ?_);conv=>whnf))
  (refine CallQ_some (F_turnsTo b hi.gb k w i hi.k hi.w hi.i) ?_ ?_ ?_; rfl; rfl); ((conv=>whnf);repeat((first|refine Ct ‹_› ?_|refine Cf ‹_› ?_|refine Ct rfl ?_|refine Cf rfl ?_|refine Bi rfl ?_|refine Bz rfl ?_|refine Lr ?_);conv=>whnf))
  refine Bnd_i (⟨hx.1, by omega⟩) ?_; ((conv=>whnf);repeat((first|refine Ct ‹_› ?_|refine Cf ‹_› ?_|refine Ct rfl ?_|refine Cf rfl ?_|refine Bi rfl ?_|refine Bz rfl ?_|refine Lr ?_);conv=>whnf))
  refine Cnd_i (fun g => ?_) (fun g => ?_)
  · have g := of_decide_eq_true g
    ((conv=>whnf);repeat((first|refine Ct ‹_› ?_|refine Cf ‹_› ?_|refine Ct rfl ?_|refine Cf rfl ?_|refine Bi rfl ?_|refine Bz rfl ?_|refine Lr ?_);conv=>whnf))
    rw [tneR, e0, if_pos rfl, if_pos (decide_eq_true (l4.2.1.1 g))]
    exact ⟨rfl, rfl, rfl⟩
  have g := of_decide_eq_false g
  have g3 : ¬ (tnS b k w i).getD x.toNat 0 < 0 := fun h => g (l4.2.1.2 h)
  have hR : tneR b k w i x = (((tnT b k w i).getD x.toNat 0).tdiv 100, true) := by rw [tneR, e0, if_pos rfl, if_neg (by rw [decide_eq_false g3]; simp), l4.2.2 (by omega)]
  have h4 := l4.2.2 (by omega)
  have : 0 ≤ ((tnS b k w i).getD x.toNat 0).tdiv 1000 ∧ ((tnS b k w i).getD x.toNat 0).tdiv 1000 ≤ 200 := by rw [Int.tdiv_eq_ediv_of_nonneg (by omega)]; omega
  have h5 : 0 ≤ ((tnT b k w i).getD x.toNat 0).tdiv 100 ∧ ((tnT b k w i).getD x.toNat 0).tdiv 100 ≤ 300 := by rw [h4]; split <;> omega
  rw [hR]
  ((conv=>whnf);repeat((first|refine Ct ‹_› ?_|refine Cf ‹_› ?_|refine Ct rfl ?_|refine Cf rfl ?_|refine Bi rfl ?_|refine Bz rfl ?_|refine Lr ?_);conv=>whnf))
  refine ⟨?_, rfl, rfl⟩
  rw [wrapI (by omega)]; rfl

theorem F_FnExactTurnsNeeded (x0 : Brd) (x1 : Int) (x2 : Int) (x3 : Int) (x4 : Int) (o0 : x0.Ok) (o1 : i64 x1) (o2 : i64 x2) (o3 : i64 x3) (o4 : i64 x4) :
    Fun E0 5 [.agg x0.cs, vI x1, vI x2, vI x3, vI x4] [] (.v (vB true)) [] [] := by
  have hS := F_TurnsNeeded x0 o0 x1 x2 x3 x4
  have hI := F_TurnsNeededI x0 o0 x1 x2 x3 x4
  revert hS hI
  generalize tneR x0 x1 x2 x3 x4 = RR
  obtain ⟨r0, r1⟩ := RR
  intro hS hI
  dsimp only at hS
  dsimp only at hI
  refine Fun_of_xc k5 rfl rfl (fun k q h => by cases h) ?_
  ((conv=>whnf);repeat((first|refine Ct ‹_› ?_|refine Cf ‹_› ?_|refine Ct rfl ?_|refine Cf rfl ?_|refine Bi rfl ?_|refine Bz rfl ?_|refine Lr ?_);conv=>whnf))
  (refine CallQ_some (F_szBoard x0 o0 1048576 (by omega) (by omega)) ?_ ?_ ?_; rfl; rfl); ((conv=>whnf);repeat((first|refine Ct ‹_› ?_|refine Cf ‹_› ?_|refine Ct rfl ?_|refine Cf rfl ?_|refine Bi rfl ?_|refine Bz rfl ?_|refine Lr ?_);conv=>whnf))
  refine Cnd_i (fun g => ?_) (fun g => ?_)
  · ((conv=>whnf);repeat((first|refine Ct ‹_› ?_|refine Cf ‹_› ?_|refine Ct rfl ?_|refine Cf rfl ?_|refine Bi rfl ?_|refine Bz rfl ?_|refine Lr ?_);conv=>whnf))
    exact ⟨rfl, rfl, rfl⟩
  have sm0 := szB_sm (b := x0) (x := 1048576) (by omega) (by omega) (of_decide_eq_false g)
  have s0 := sm0.1
  have sb0 := sm0.2
  have sc0 := of_decide_eq_false g
  ((conv=>whnf);repeat((first|refine Ct ‹_› ?_|refine Cf ‹_› ?_|refine Ct rfl ?_|refine Cf rfl ?_|refine Bi rfl ?_|refine Bz rfl ?_|refine Lr ?_);conv=>whnf))
  (refine CallQ_some (F_toBoard x0 s0) ?_ ?_ ?_; rfl; rfl); ((conv=>whnf);repeat((first|refine Ct ‹_› ?_|refine Cf ‹_› ?_|refine Ct rfl ?_|refine Cf rfl ?_|refine Bi rfl ?_|refine Bz rfl ?_|refine Lr ?_);conv=>whnf))
  refine CallQ_eq (snapB x0 _) ?_
  (refine CallQ_some (hS) ?_ ?_ ?_; rfl; rfl); ((conv=>whnf);repeat((first|refine Ct ‹_› ?_|refine Cf ‹_› ?_|refine Ct rfl ?_|refine Cf rfl ?_|refine Bi rfl ?_|refine Bz rfl ?_|refine Lr ?_);conv=>whnf))
  (refine CallQ_some (F_toBoard x0 s0) ?_ ?_ ?_; rfl; rfl); ((conv=>whnf);repeat((first|refine Ct ‹_› ?_|refine Cf ‹_› ?_|refine Ct rfl ?_|refine Cf rfl ?_|refine Bi rfl ?_|refine Bz rfl ?_|refine Lr ?_);conv=>whnf))
  refine CallQ_eq (snapB x0 _) ?_
  (refine CallQ_some (hI) ?_ ?_ ?_; rfl; rfl); ((conv=>whnf);repeat((first|refine Ct ‹_› ?_|refine Cf ‹_› ?_|refine Ct rfl ?_|refine Cf rfl ?_|refine Bi rfl ?_|refine Bz rfl ?_|refine Lr ?_);conv=>whnf))
  repeat (refine Cnd_f (by simp) ?_; ((conv=>whnf);repeat((first|refine Ct ‹_› ?_|refine Cf ‹_› ?_|refine Ct rfl ?_|refine Cf rfl ?_|refine Bi rfl ?_|refine Bz rfl ?_|refine Lr ?_);conv=>whnf)))
  repeat (refine Cnd_f (by simp) ?_; ((conv=>whnf);repeat((first|refine Ct ‹_› ?_|refine Cf ‹_› ?_|refine Ct rfl ?_|refine Cf rfl ?_|refine Bi rfl ?_|refine Bz rfl ?_|refine Lr ?_);conv=>whnf)))
  repeat (refine Cnd_f (by simp) ?_; ((conv=>whnf);repeat((first|refine Ct ‹_› ?_|refine Cf ‹_› ?_|refine Ct rfl ?_|refine Cf rfl ?_|refine Bi rfl ?_|refine Bz rfl ?_|refine Lr ?_);conv=>whnf)))
  (refine CallQ_some (F_toBoard x0 s0) ?_ ?_ ?_; rfl; rfl); ((conv=>whnf);repeat((first|refine Ct ‹_› ?_|refine Cf ‹_› ?_|refine Ct rfl ?_|refine Cf rfl ?_|refine Bi rfl ?_|refine Bz rfl ?_|refine Lr ?_);conv=>whnf))
  refine CallQ_eq (snapBB x0) ?_
  (refine CallQ_some (F_eqBoard x0 s0) ?_ ?_ ?_; rfl; rfl); ((conv=>whnf);repeat((first|refine Ct ‹_› ?_|refine Cf ‹_› ?_|refine Ct rfl ?_|refine Cf rfl ?_|refine Bi rfl ?_|refine Bz rfl ?_|refine Lr ?_);conv=>whnf))
  exact ⟨rfl, rfl, rfl⟩
end Go.Proofs.YtbcohkgcakgpcaaDoor.Ab
