/- Contracts of the functions that FnExactDetourCost reaches, by the abstract machine (part 2).
   Conditions: none. -/
import Derived.Test.YtbcohkgcakgpcaaDoorCDetourCost1
set_option linter.unusedVariables false
set_option linter.unusedSimpArgs false
namespace Go.Proofs.YtbcohkgcakgpcaaDoor.Ab
open Go Go.RowKit
attribute [local irreducible] Cnd Bnd Rw CallQ CallR Bts Isn Lc WLoop
set_option maxRecDepth 100000
set_option maxHeartbeats 1000000
noncomputable def dtR (b : Brd) (k w i x : Int) (av : List Int) : Int × Bool := if okTr b k w i x = true then if okAv b av = true then if decide ((dL b k w i av false).getD x.toNat 0 < 0) = true then (0, false) else ((dL b k w i av false).getD x.toNat 0, true) else (0, false) else (0, false)

theorem F_DetourCost_1 (b : Brd) (h : GB b) (x : Int) : Fun E0 46 [vI x, .one (.pro 12 fun j => nth b.cs j)] [] (.v (vB (!In x 0 (b.m.ter.length - 1)))) [] [] := by
  have hm := h.wh.mul
  have hn := h.n
  refine Fun_of_xc k46 rfl rfl (fun k q h => by cases h) ?_
  ((conv=>whnf);repeat((first|refine Ct ‹_› ?_|refine Cf ‹_› ?_|refine Ct rfl ?_|refine Cf rfl ?_|refine Bi rfl ?_|refine Bz rfl ?_|refine Lr ?_);conv=>whnf))
  (refine CallQ_some (F_sizeOf b) ?_ ?_ ?_; rfl; rfl); ((conv=>whnf);repeat((first|refine Ct ‹_› ?_|refine Cf ‹_› ?_|refine Ct rfl ?_|refine Cf rfl ?_|refine Bi rfl ?_|refine Bz rfl ?_|refine Lr ?_);conv=>whnf))
  (refine CallQ_some (F_isIndex x b.m.ter.length ⟨by unfold i64; omega, by omega⟩) ?_ ?_ ?_; rfl; rfl); ((conv=>whnf);repeat((first|refine Ct ‹_› ?_|refine Cf ‹_› ?_|refine Ct rfl ?_|refine Cf rfl ?_|refine Bi rfl ?_|refine Bz rfl ?_|refine Lr ?_);conv=>whnf))
  exact ⟨rfl, rfl, rfl⟩

theorem F_DetourCost (b : Brd) (ho : b.Ok) (k w i x : Int) (av : List Int) (hav : okL av) :
    Fun E0 15 [.agg b.cs, vI k, vI w, vI i, vI x, .one (roI av)] [] (.tup [vI (dtR b k w i x av).1, vB (dtR b k w i x av).2]) [] [] := by
  refine Fun_of_xc k15 rfl rfl (fun k q h => by cases h) ?_
  ((conv=>whnf);repeat((first|refine Ct ‹_› ?_|refine Cf ‹_› ?_|refine Ct rfl ?_|refine Cf rfl ?_|refine Bi rfl ?_|refine Bz rfl ?_|refine Lr ?_);conv=>whnf))
  (refine CallQ_some (F_pAsked b ho k w i) ?_ ?_ ?_; rfl; rfl); ((conv=>whnf);repeat((first|refine Ct ‹_› ?_|refine Cf ‹_› ?_|refine Ct rfl ?_|refine Cf rfl ?_|refine Bi rfl ?_|refine Bz rfl ?_|refine Lr ?_);conv=>whnf))
  refine Cnd_i (fun g => ?_) (fun g => ?_)
  · have e0 : okIn b k w i = false := by simpa using g
    ((conv=>whnf);repeat((first|refine Ct ‹_› ?_|refine Cf ‹_› ?_|refine Ct rfl ?_|refine Cf rfl ?_|refine Bi rfl ?_|refine Bz rfl ?_|refine Lr ?_);conv=>whnf))
    rw [dtR, okTr, e0]
    exact ⟨rfl, rfl, rfl⟩
  have e1 : okIn b k w i = true := by simpa using g
  ((conv=>whnf);repeat((first|refine Ct ‹_› ?_|refine Cf ‹_› ?_|refine Ct rfl ?_|refine Cf rfl ?_|refine Bi rfl ?_|refine Bz rfl ?_|refine Lr ?_);conv=>whnf))
  (refine CallQ_some (F_pAsked b ho k w x) ?_ ?_ ?_; rfl; rfl); ((conv=>whnf);repeat((first|refine Ct ‹_› ?_|refine Cf ‹_› ?_|refine Ct rfl ?_|refine Cf rfl ?_|refine Bi rfl ?_|refine Bz rfl ?_|refine Lr ?_);conv=>whnf))
  refine Cnd_i (fun g => ?_) (fun g => ?_)
  · have e0 : okIn b k w x = false := by simpa using g
    ((conv=>whnf);repeat((first|refine Ct ‹_› ?_|refine Cf ‹_› ?_|refine Ct rfl ?_|refine Cf rfl ?_|refine Bi rfl ?_|refine Bz rfl ?_|refine Lr ?_);conv=>whnf))
    rw [dtR, okTr, e1, e0]
    exact ⟨rfl, rfl, rfl⟩
  have e2 : okIn b k w x = true := by simpa using g
  have e0 : okTr b k w i x = true := by rw [okTr, e1, e2]; rfl
  obtain ⟨hi, hx⟩ := TrOk ho e0
  have hm := hi.gb.wh.mul
  have hn := hi.gb.n
  ((conv=>whnf);repeat((first|refine Ct ‹_› ?_|refine Cf ‹_› ?_|refine Ct rfl ?_|refine Cf rfl ?_|refine Bi rfl ?_|refine Bz rfl ?_|refine Lr ?_);conv=>whnf))
  (refine CallQ_some (F_mSizeB b hi.gb) ?_ ?_ ?_; rfl; rfl); ((conv=>whnf);repeat((first|refine Ct ‹_› ?_|refine Cf ‹_› ?_|refine Ct rfl ?_|refine Cf rfl ?_|refine Bi rfl ?_|refine Bz rfl ?_|refine Lr ?_);conv=>whnf))
  refine CallQ_eq (show _ = [.one (roI av), vI 0, vI ((b.m.ter.length : Int) - 1)] by rw [wrapI (by omega)]) ?_
  (refine CallQ_some (F_l1Rising av 0 ((b.m.ter.length : Int) - 1) hav.len) ?_ ?_ ?_; rfl; rfl); ((conv=>whnf);repeat((first|refine Ct ‹_› ?_|refine Cf ‹_› ?_|refine Ct rfl ?_|refine Cf rfl ?_|refine Bi rfl ?_|refine Bz rfl ?_|refine Lr ?_);conv=>whnf))
  refine Cnd_i (fun g => ?_) (fun g => ?_)
  · have e3 : okAv b av = false := by rwa [Bool.not_eq_true'] at g
    ((conv=>whnf);repeat((first|refine Ct ‹_› ?_|refine Cf ‹_› ?_|refine Ct rfl ?_|refine Cf rfl ?_|refine Bi rfl ?_|refine Bz rfl ?_|refine Lr ?_);conv=>whnf))
    rw [dtR, e0, e3]
    exact ⟨rfl, rfl, rfl⟩
  have e3 : okAv b av = true := by rwa [Bool.not_eq_false'] at g
  have hlen := dL_len hi.gb hi.k hi.w hi.i av false
  ((conv=>whnf);repeat((first|refine Ct ‹_› ?_|refine Cf ‹_› ?_|refine Ct rfl ?_|refine Cf rfl ?_|refine Bi rfl ?_|refine Bz rfl ?_|refine Lr ?_);conv=>whnf))
  (refine CallQ_some (F_pFrom b hi.gb k w i av hi.k hi.w hi.i hav.len) ?_ ?_ ?_; rfl; rfl); ((conv=>whnf);repeat((first|refine Ct ‹_› ?_|refine Cf ‹_› ?_|refine Ct rfl ?_|refine Cf rfl ?_|refine Bi rfl ?_|refine Bz rfl ?_|refine Lr ?_);conv=>whnf))
  refine Bnd_i (⟨hx.1, by omega⟩) ?_; ((conv=>whnf);repeat((first|refine Ct ‹_› ?_|refine Cf ‹_› ?_|refine Ct rfl ?_|refine Cf rfl ?_|refine Bi rfl ?_|refine Bz rfl ?_|refine Lr ?_);conv=>whnf))
  refine Cnd_i (fun g => ?_) (fun g => ?_)
  · ((conv=>whnf);repeat((first|refine Ct ‹_› ?_|refine Cf ‹_› ?_|refine Ct rfl ?_|refine Cf rfl ?_|refine Bi rfl ?_|refine Bz rfl ?_|refine Lr ?_);conv=>whnf))
    rw [dtR, e0, e3, if_pos rfl, if_pos rfl, if_pos g]
    exact ⟨rfl, rfl, rfl⟩
  · ((conv=>whnf);repeat((first|refine Ct ‹_› ?_|refine Cf ‹_› ?_|refine Ct rfl ?_|refine Cf rfl ?_|refine Bi rfl ?_|refine Bz rfl ?_|refine Lr ?_);conv=>whnf))
    rw [dtR, e0, e3, if_pos rfl, if_pos rfl, if_neg (by rw [g]; simp)]
    exact ⟨rfl, rfl, rfl⟩

theorem F_DetourCostI (b : Brd) (ho : b.Ok) (k w i x : Int) (av : List Int) (hav : okL av) :
    Fun E0 16 [.agg b.cs, vI k, vI w, vI i, vI x, .one (roI av)] [] (.tup [vI (dtR b k w i x av).1, vB (dtR b k w i x av).2]) [] [] := by
  refine Fun_of_xc k16 rfl rfl (fun k q h => by cases h) ?_
  ((conv=>whnf);repeat((first|refine Ct ‹_› ?_|refine Cf ‹_› ?_|refine Ct rfl ?_|refine Cf rfl ?_|refine Bi rfl ?_|refine Bz rfl ?_|refine Lr ?_);conv=>whnf))
  (refine CallQ_some (F_isTrip b ho k w i x) ?_ ?_ ?_; rfl; rfl); ((conv=>whnf);repeat((first|refine Ct ‹_› ?_|refine Cf ‹_› ?_|refine Ct rfl ?_|refine Cf rfl ?_|refine Bi rfl ?_|refine Bz rfl ?_|refine Lr ?_);conv=>whnf))
  refine Cnd_i (fun g => ?_) (fun g => ?_)
  · have e0 : okTr b k w i x = false := by simpa using g
    ((conv=>whnf);repeat((first|refine Ct ‹_› ?_|refine Cf ‹_› ?_|refine Ct rfl ?_|refine Cf rfl ?_|refine Bi rfl ?_|refine Bz rfl ?_|refine Lr ?_);conv=>whnf))
    rw [dtR, e0]
    exact ⟨rfl, rfl, rfl⟩
  have e0 : okTr b k w i x = true := by simpa using g
  obtain ⟨hi, hx⟩ := TrOk ho e0
  have hm := hi.gb.wh.mul
  have hn := hi.gb.n
  ((conv=>whnf);repeat((first|refine Ct ‹_› ?_|refine Cf ‹_› ?_|refine Ct rfl ?_|refine Cf rfl ?_|refine Bi rfl ?_|refine Bz rfl ?_|refine Lr ?_);conv=>whnf))
  (refine CallQ_some (F_increasing av hav.len) ?_ ?_ ?_; rfl; rfl); ((conv=>whnf);repeat((first|refine Ct ‹_› ?_|refine Cf ‹_› ?_|refine Ct rfl ?_|refine Cf rfl ?_|refine Bi rfl ?_|refine Bz rfl ?_|refine Lr ?_);conv=>whnf))
  refine Cnd_i (fun g => ?_) (fun g => ?_)
  · have e1 : rising av = false := by simpa using g
    ((conv=>whnf);repeat((first|refine Ct ‹_› ?_|refine Cf ‹_› ?_|refine Ct rfl ?_|refine Cf rfl ?_|refine Bi rfl ?_|refine Bz rfl ?_|refine Lr ?_);conv=>whnf))
    rw [dtR, e0, okAv, e1, Bool.and_false]
    exact ⟨rfl, rfl, rfl⟩
  have e1 : rising av = true := by simpa using g
  ((conv=>whnf);repeat((first|refine Ct ‹_› ?_|refine Cf ‹_› ?_|refine Ct rfl ?_|refine Cf rfl ?_|refine Bi rfl ?_|refine Bz rfl ?_|refine Lr ?_);conv=>whnf))
  (refine CallQ_some (F_ContainsFuncI av (fun x => !In x 0 (b.m.ter.length - 1)) 46 1 _ _ [.one (.pro 12 fun j => nth b.cs j)] rfl hav.len (fun x _ => F_DetourCost_1 b hi.gb x)) ?_ ?_ ?_; rfl; rfl); ((conv=>whnf);repeat((first|refine Ct ‹_› ?_|refine Cf ‹_› ?_|refine Ct rfl ?_|refine Cf rfl ?_|refine Bi rfl ?_|refine Bz rfl ?_|refine Lr ?_);conv=>whnf))
  have hany : (av.any fun x => !In x 0 (b.m.ter.length - 1)) = !(av.all fun x => In x 0 (b.m.ter.length - 1)) := by rw [List.not_all_eq_any_not]
  refine Cnd_i (fun g => ?_) (fun g => ?_)
  · have e3 : okAv b av = false := by rw [hany, Bool.not_eq_true'] at g; rw [okAv, g, Bool.false_and]
    ((conv=>whnf);repeat((first|refine Ct ‹_› ?_|refine Cf ‹_› ?_|refine Ct rfl ?_|refine Cf rfl ?_|refine Bi rfl ?_|refine Bz rfl ?_|refine Lr ?_);conv=>whnf))
    rw [dtR, e0, e3]
    exact ⟨rfl, rfl, rfl⟩
  have e3 : okAv b av = true := by rw [hany, Bool.not_eq_false'] at g; rw [okAv, g, e1]; rfl
  have hlen := dL_len hi.gb hi.k hi.w hi.i av false
  ((conv=>whnf);repeat((first|refine Ct ‹_› ?_|refine Cf ‹_› ?_|refine Ct rfl ?_|refine Cf rfl ?_|refine Bi rfl ?_|refine Bz rfl ?_|refine Lr ?_);conv=>whnf))
  (refine CallQ_some (F_relaxed b hi.gb k w i false av hi.k hi.w hi.i hav.len) ?_ ?_ ?_; rfl; rfl); ((conv=>whnf);repeat((first|refine Ct ‹_› ?_|refine Cf ‹_› ?_|refine Ct rfl ?_|refine Cf rfl ?_|refine Bi rfl ?_|refine Bz rfl ?_|refine Lr ?_);conv=>whnf))
  refine Bnd_i (⟨hx.1, by omega⟩) ?_; ((conv=>whnf);repeat((first|refine Ct ‹_› ?_|refine Cf ‹_› ?_|refine Ct rfl ?_|refine Cf rfl ?_|refine Bi rfl ?_|refine Bz rfl ?_|refine Lr ?_);conv=>whnf))
  refine Cnd_i (fun g => ?_) (fun g => ?_)
  · ((conv=>whnf);repeat((first|refine Ct ‹_› ?_|refine Cf ‹_› ?_|refine Ct rfl ?_|refine Cf rfl ?_|refine Bi rfl ?_|refine Bz rfl ?_|refine Lr ?_);conv=>whnf))
    rw [dtR, e0, e3, if_pos rfl, if_pos rfl, if_pos g]
    exact ⟨rfl, rfl, rfl⟩
  · ((conv=>whnf);repeat((first|refine Ct ‹_› ?_|refine Cf ‹_› ?_|refine Ct rfl ?_|refine Cf rfl ?_|refine Bi rfl ?_|refine Bz rfl ?_|refine Lr ?_);conv=>whnf))
    refine Bnd_i (⟨hx.1, by omega⟩) ?_; ((conv=>whnf);repeat((first|refine Ct ‹_› ?_|refine Cf ‹_› ?_|refine Ct rfl ?_|refine Cf rfl ?_|refine Bi rfl ?_|refine Bz rfl ?_|refine Lr ?_);conv=>whnf))
    rw [dtR, e0, e3, if_pos rfl, if_pos rfl, if_neg (by rw [g]; simp)]
    exact ⟨rfl, rfl, rfl⟩

theorem F_FnExactDetourCost (x0 : Brd) (x1 : Int) (x2 : Int) (x3 : Int) (x4 : Int) (x5 : List Int) (o0 : x0.Ok) (o1 : i64 x1) (o2 : i64 x2) (o3 : i64 x3) (o4 : i64 x4) (o5 : okL x5) :
    Fun E0 4 [.agg x0.cs, vI x1, vI x2, vI x3, vI x4, .one (roI x5)] [] (.v (vB true)) [] [] := by
  have hS := F_DetourCost x0 o0 x1 x2 x3 x4 x5 o5
  have hI := F_DetourCostI x0 o0 x1 x2 x3 x4 x5 o5
  revert hS hI
  generalize dtR x0 x1 x2 x3 x4 x5 = RR
  obtain ⟨r0, r1⟩ := RR
  intro hS hI
  dsimp only at hS
  dsimp only at hI
  refine Fun_of_xc k4 rfl rfl (fun k q h => by cases h) ?_
  ((conv=>whnf);repeat((first|refine Ct ‹_› ?_|refine Cf ‹_› ?_|refine Ct rfl ?_|refine Cf rfl ?_|refine Bi rfl ?_|refine Bz rfl ?_|refine Lr ?_);conv=>whnf))
  refine Cnd_i (fun g => ?_) (fun g => ?_)
  · ((conv=>whnf);repeat((first|refine Ct ‹_› ?_|refine Cf ‹_› ?_|refine Ct rfl ?_|refine Cf rfl ?_|refine Bi rfl ?_|refine Bz rfl ?_|refine Lr ?_);conv=>whnf))
    exact ⟨rfl, rfl, rfl⟩
  have l5 : x5.length ≤ 1048576 := by have := of_decide_eq_false g; omega
  ((conv=>whnf);repeat((first|refine Ct ‹_› ?_|refine Cf ‹_› ?_|refine Ct rfl ?_|refine Cf rfl ?_|refine Bi rfl ?_|refine Bz rfl ?_|refine Lr ?_);conv=>whnf))
  (refine CallQ_some (F_szBoard x0 o0 1048576 (by omega) (by omega)) ?_ ?_ ?_; rfl; rfl); ((conv=>whnf);repeat((first|refine Ct ‹_› ?_|refine Cf ‹_› ?_|refine Ct rfl ?_|refine Cf rfl ?_|refine Bi rfl ?_|refine Bz rfl ?_|refine Lr ?_);conv=>whnf))
  refine Cnd_i (fun g => ?_) (fun g => ?_)
  · ((conv=>whnf);repeat((first|refine Ct ‹_› ?_|refine Cf ‹_› ?_|refine Ct rfl ?_|refine Cf rfl ?_|refine Bi rfl ?_|refine Bz rfl ?_|refine Lr ?_);conv=>whnf))
    exact ⟨rfl, rfl, rfl⟩
  have sm0 := szB_sm (b := x0) (x := 1048576) (by omega) (by omega) (of_decide_eq_false g)
  have s0 := sm0.1
  have sb0 := sm0.2
  have sc0 := of_decide_eq_false g
  ((conv=>whnf);repeat((first|refine Ct ‹_› ?_|refine Cf ‹_› ?_|refine Ct rfl ?_|refine Cf rfl ?_|refine Bi rfl ?_|refine Bz rfl ?_|refine Lr ?_);conv=>whnf))
  (refine CallQ_some (F_toBoard x0 s0) ?_ ?_ ?_; rfl; rfl); ((conv=>whnf);repeat((first|refine Ct ‹_› ?_|refine Cf ‹_› ?_|refine Ct rfl ?_|refine Cf rfl ?_|refine Bi rfl ?_|refine Bz rfl ?_|refine Lr ?_);conv=>whnf))
  (refine CallQ_some (F_toIntS x5 l5) ?_ ?_ ?_; rfl; rfl); ((conv=>whnf);repeat((first|refine Ct ‹_› ?_|refine Cf ‹_› ?_|refine Ct rfl ?_|refine Cf rfl ?_|refine Bi rfl ?_|refine Bz rfl ?_|refine Lr ?_);conv=>whnf))
  refine CallQ_eq (snapB x0 _) ?_
  (refine CallQ_some (hS) ?_ ?_ ?_; rfl; rfl); ((conv=>whnf);repeat((first|refine Ct ‹_› ?_|refine Cf ‹_› ?_|refine Ct rfl ?_|refine Cf rfl ?_|refine Bi rfl ?_|refine Bz rfl ?_|refine Lr ?_);conv=>whnf))
  (refine CallQ_some (F_toBoard x0 s0) ?_ ?_ ?_; rfl; rfl); ((conv=>whnf);repeat((first|refine Ct ‹_› ?_|refine Cf ‹_› ?_|refine Ct rfl ?_|refine Cf rfl ?_|refine Bi rfl ?_|refine Bz rfl ?_|refine Lr ?_);conv=>whnf))
  (refine CallQ_some (F_toIntS x5 l5) ?_ ?_ ?_; rfl; rfl); ((conv=>whnf);repeat((first|refine Ct ‹_› ?_|refine Cf ‹_› ?_|refine Ct rfl ?_|refine Cf rfl ?_|refine Bi rfl ?_|refine Bz rfl ?_|refine Lr ?_);conv=>whnf))
  refine CallQ_eq (snapB x0 _) ?_
  (refine CallQ_some (hI) ?_ ?_ ?_; rfl; rfl); ((conv=>whnf);repeat((first|refine Ct ‹_› ?_|refine Cf ‹_› ?_|refine Ct rfl ?_|refine Cf rfl ?_|refine Bi rfl ?_|refine Bz rfl ?_|refine Lr ?_);conv=>whnf))
  repeat (refine Cnd_f (by simp) ?_; ((conv=>whnf);repeat((first|refine Ct ‹_› ?_|refine Cf ‹_› ?_|refine Ct rfl ?_|refine Cf rfl ?_|refine Bi rfl ?_|refine Bz rfl ?_|refine Lr ?_);conv=>whnf)))
  repeat (refine Cnd_f (by simp) ?_; ((conv=>whnf);repeat((first|refine Ct ‹_› ?_|refine Cf ‹_› ?_|refine Ct rfl ?_|refine Cf rfl ?_|refine Bi rfl ?_|refine Bz rfl ?_|refine Lr ?_);conv=>whnf)))
  repeat (refine Cnd_f (by simp) ?_; ((conv=>whnf);repeat((first|refine Ct ‹_› ?_|refine Cf ‹_› ?_|refine Ct rfl ?_|refine Cf rfl ?_|refine Bi rfl ?_|refine Bz rfl ?_|refine Lr ?_);conv=>whnf)))
  (refine CallQ_some (F_toBoard x0 s0) ?_ ?_ ?_; rfl; rfl); ((conv=>whnf);repeat((first|refine Ct ‹_› ?_|refine Cf ‹_› ?_|refine Ct rfl ?_|refine Cf rfl ?_|refine Bi rfl ?_|refine Bz rfl ?_|refine Lr ?_);conv=>whnf))
  refine CallQ_eq (snapBB x0) ?_
  (refine CallQ_some (F_eqBoard x0 s0) ?_ ?_ ?_; rfl; rfl); ((conv=>whnf);repeat((first|refine Ct ‹_› ?_|refine Cf ‹_› ?_|refine Ct rfl ?_|refine Cf rfl ?_|refine Bi rfl ?_|refine Bz rfl ?_|refine Lr ?_);conv=>whnf))
  (refine CallQ_some (F_toIntS x5 l5) ?_ ?_ ?_; rfl; rfl); ((conv=>whnf);repeat((first|refine Ct ‹_› ?_|refine Cf ‹_› ?_|refine Ct rfl ?_|refine Cf rfl ?_|refine Bi rfl ?_|refine Bz rfl ?_|refine Lr ?_);conv=>whnf))
  (refine CallQ_some (F_eqIntS x5 l5) ?_ ?_ ?_; rfl; rfl); ((conv=>whnf);repeat((first|refine Ct ‹_› ?_|refine Cf ‹_› ?_|refine Ct rfl ?_|refine Cf rfl ?_|refine Bi rfl ?_|refine Bz rfl ?_|refine Lr ?_);conv=>whnf))
  exact ⟨rfl, rfl, rfl⟩

/-! ### a place to meet -/
def betM (L L' : List Int) (x y : Int) : Prop := max (L.getD x.toNat 0) (L'.getD x.toNat 0) < max (L.getD y.toNat 0) (L'.getD y.toNat 0) ∨ (max (L.getD x.toNat 0) (L'.getD x.toNat 0) = max (L.getD y.toNat 0) (L'.getD y.toNat 0) ∧ L.getD x.toNat 0 + L'.getD x.toNat 0 < L.getD y.toNat 0 + L'.getD y.toNat 0)

instance (L L' : List Int) (x y : Int) : Decidable (betM L L' x y) := by unfold betM; infer_instance
end Go.Proofs.YtbcohkgcakgpcaaDoor.Ab
