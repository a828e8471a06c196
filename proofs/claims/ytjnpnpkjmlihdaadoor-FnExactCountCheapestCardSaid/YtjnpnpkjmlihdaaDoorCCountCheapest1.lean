/- Contracts of the functions that FnExactCountCheapest reaches, by the abstract machine (part 1).
   Conditions: none. -/
import Derived.Test.YtjnpnpkjmlihdaaDoorCCountCheapest0
set_option linter.unusedVariables false
set_option linter.unusedSimpArgs false
namespace Go.Proofs.YtjnpnpkjmlihdaaDoor.Ab
open Go Go.RowKit
attribute [local irreducible] Cnd Bnd Rw CallQ CallR CallRX Bts Isn Lc WLoop
set_option maxRecDepth 100000
set_option maxHeartbeats 1000000
theorem F_cStep (b : Brd) (h : GB b) (k i d w : Int) (k0 : 0 ≤ k) (k1 : k < b.r.knd.length) (i0 : 0 ≤ i) (i1 : i < b.m.ter.length) (d0 : 0 ≤ d) (d5 : d ≤ 5) (w0 : 0 ≤ w) (w2 : w ≤ 2) :
    Fun E0 13 [.agg b.cs, vI k, vI i, vI d, vI w] [] (.v (vI (stepC b k i d w))) [] [] := by
  have hs := h.wh.mul
  have hn := h.n
  have hb := nx_b h.wh i d
  have hr := h.road
  have hw1 := wx_b (r := true) w0 w2
  have hw2 := wx_b (r := false) w0 w2
  refine Fun_of_xc k13 rfl rfl (fun k q h => by cases h) ?_
  ((conv=>whnf);repeat((first|refine Ct ‹_› ?_|refine Cf ‹_› ?_|refine Ct rfl ?_|refine Cf rfl ?_|refine Bi rfl ?_|refine Bz rfl ?_|refine Lr ?_);conv=>whnf))
  refine CallQ_some (F_mNext b.m h.wh i d i0 (by omega) d0 d5) rfl rfl ?_
  ((conv=>whnf);repeat((first|refine Ct ‹_› ?_|refine Cf ‹_› ?_|refine Ct rfl ?_|refine Cf rfl ?_|refine Bi rfl ?_|refine Bz rfl ?_|refine Lr ?_);conv=>whnf))
  refine Cnd_i (fun g => ?_) (fun e1 => ?_)
  · have g := of_decide_eq_true g
    ((conv=>whnf);repeat((first|refine Ct ‹_› ?_|refine Cf ‹_› ?_|refine Ct rfl ?_|refine Cf rfl ?_|refine Bi rfl ?_|refine Bz rfl ?_|refine Lr ?_);conv=>whnf))
    refine ⟨?_, rfl, rfl⟩
    rw [stepC, if_pos g]; rfl
  have e1 := of_decide_eq_false e1
  have hc := h.cost (k := k) (i := nx b.m i d) (by omega) (by omega) k0 k1
  ((conv=>whnf);repeat((first|refine Ct ‹_› ?_|refine Cf ‹_› ?_|refine Ct rfl ?_|refine Cf rfl ?_|refine Bi rfl ?_|refine Bz rfl ?_|refine Lr ?_);conv=>whnf))
  refine CallQ_some (F_bCost b h k _ (by omega) (by omega) k0 k1) rfl rfl ?_
  ((conv=>whnf);repeat((first|refine Ct ‹_› ?_|refine Cf ‹_› ?_|refine Ct rfl ?_|refine Cf rfl ?_|refine Bi rfl ?_|refine Bz rfl ?_|refine Lr ?_);conv=>whnf))
  refine Cnd_i (fun g => ?_) (fun e2 => ?_)
  · have g : costAt b k (nx b.m i d) = 0 := by simpa using g
    ((conv=>whnf);repeat((first|refine Ct ‹_› ?_|refine Cf ‹_› ?_|refine Ct rfl ?_|refine Cf rfl ?_|refine Bi rfl ?_|refine Bz rfl ?_|refine Lr ?_);conv=>whnf))
    refine ⟨?_, rfl, rfl⟩
    rw [stepC, if_neg e1, if_pos g]; rfl
  have e2 : ¬ costAt b k (nx b.m i d) = 0 := by simpa using e2
  ((conv=>whnf);repeat((first|refine Ct ‹_› ?_|refine Cf ‹_› ?_|refine Ct rfl ?_|refine Cf rfl ?_|refine Bi rfl ?_|refine Bz rfl ?_|refine Lr ?_);conv=>whnf))
  refine CallQ_some (F_mRoad b.m h.wh h.ok.m i d i0 (by omega) d0 d5) rfl rfl ?_
  ((conv=>whnf);repeat((first|refine Ct ‹_› ?_|refine Cf ‹_› ?_|refine Ct rfl ?_|refine Cf rfl ?_|refine Bi rfl ?_|refine Bz rfl ?_|refine Lr ?_);conv=>whnf))
  refine Cnd_i (fun g => ?_) (fun e3 => ?_)
  · ((conv=>whnf);repeat((first|refine Ct ‹_› ?_|refine Cf ‹_› ?_|refine Ct rfl ?_|refine Cf rfl ?_|refine Bi rfl ?_|refine Bz rfl ?_|refine Lr ?_);conv=>whnf))
    refine CallQ_some (F_csWeather w true w0 w2) rfl rfl ?_
    ((conv=>whnf);repeat((first|refine Ct ‹_› ?_|refine Cf ‹_› ?_|refine Ct rfl ?_|refine Cf rfl ?_|refine Bi rfl ?_|refine Bz rfl ?_|refine Lr ?_);conv=>whnf))
    refine ⟨?_, rfl, rfl⟩
    rw [wrapI (by omega), stepC, if_neg e1, if_neg e2, if_pos g]; rfl
  ((conv=>whnf);repeat((first|refine Ct ‹_› ?_|refine Cf ‹_› ?_|refine Ct rfl ?_|refine Cf rfl ?_|refine Bi rfl ?_|refine Bz rfl ?_|refine Lr ?_);conv=>whnf))
  refine CallQ_some (F_bCost b h k _ (by omega) (by omega) k0 k1) rfl rfl ?_
  ((conv=>whnf);repeat((first|refine Ct ‹_› ?_|refine Cf ‹_› ?_|refine Ct rfl ?_|refine Cf rfl ?_|refine Bi rfl ?_|refine Bz rfl ?_|refine Lr ?_);conv=>whnf))
  refine CallQ_some (F_csWeather w false w0 w2) rfl rfl ?_
  ((conv=>whnf);repeat((first|refine Ct ‹_› ?_|refine Cf ‹_› ?_|refine Ct rfl ?_|refine Cf rfl ?_|refine Bi rfl ?_|refine Bz rfl ?_|refine Lr ?_);conv=>whnf))
  refine CallQ_some (F_mRiver b.m h.wh h.ok.m i d i0 (by omega) d0 d5) rfl rfl ?_
  ((conv=>whnf);repeat((first|refine Ct ‹_› ?_|refine Cf ‹_› ?_|refine Ct rfl ?_|refine Cf rfl ?_|refine Bi rfl ?_|refine Bz rfl ?_|refine Lr ?_);conv=>whnf))
  have e3' : ¬ b.m.roa.contains (ed b.m i d) = true := by rw [e3]; simp
  rw [wrapI (n := costAt b k (nx b.m i d) + wx w false) (by omega)]
  refine Cnd_i (fun g => ?_) (fun g => ?_)
  · ((conv=>whnf);repeat((first|refine Ct ‹_› ?_|refine Cf ‹_› ?_|refine Ct rfl ?_|refine Cf rfl ?_|refine Bi rfl ?_|refine Bz rfl ?_|refine Lr ?_);conv=>whnf))
    refine ⟨?_, rfl, rfl⟩
    rw [wrapI (by omega), stepC, if_neg e1, if_neg e2, if_neg e3', if_pos g]; rfl
  · ((conv=>whnf);repeat((first|refine Ct ‹_› ?_|refine Cf ‹_› ?_|refine Ct rfl ?_|refine Cf rfl ?_|refine Bi rfl ?_|refine Bz rfl ?_|refine Lr ?_);conv=>whnf))
    refine ⟨?_, rfl, rfl⟩
    have g' : ¬ b.m.riv.contains (ed b.m i d) = true := by rw [g]; simp
    rw [stepC, if_neg e1, if_neg e2, if_neg e3', if_neg g']; rfl

theorem F_stepCost (b : Brd) (h : GB b) (k i d w : Int) (k0 : 0 ≤ k) (k1 : k < b.r.knd.length) (i0 : 0 ≤ i) (i1 : i < b.m.ter.length) (d0 : 0 ≤ d) (d5 : d ≤ 5) (w0 : 0 ≤ w) (w2 : w ≤ 2) :
    Fun E0 23 [.agg b.cs, vI k, vI w, vI i, vI d] [] (.v (vI (stepC b k i d w))) [] [] := by
  have hs := h.wh.mul
  have hn := h.n
  have hb := nx_b h.wh i d
  have hr := h.road
  have hw1 := wx_b (r := true) w0 w2
  have hw2 := wx_b (r := false) w0 w2
  refine Fun_of_xc k23 rfl rfl (fun k q h => by cases h) ?_
  ((conv=>whnf);repeat((first|refine Ct ‹_› ?_|refine Cf ‹_› ?_|refine Ct rfl ?_|refine Cf rfl ?_|refine Bi rfl ?_|refine Bz rfl ?_|refine Lr ?_);conv=>whnf))
  refine CallQ_some (F_nextTo b.m h.wh i d i0 (by omega) d0 d5) rfl rfl ?_
  ((conv=>whnf);repeat((first|refine Ct ‹_› ?_|refine Cf ‹_› ?_|refine Ct rfl ?_|refine Cf rfl ?_|refine Bi rfl ?_|refine Bz rfl ?_|refine Lr ?_);conv=>whnf))
  refine Cnd_i (fun g => ?_) (fun e1 => ?_)
  · have g := of_decide_eq_true g
    ((conv=>whnf);repeat((first|refine Ct ‹_› ?_|refine Cf ‹_› ?_|refine Ct rfl ?_|refine Cf rfl ?_|refine Bi rfl ?_|refine Bz rfl ?_|refine Lr ?_);conv=>whnf))
    refine ⟨?_, rfl, rfl⟩
    rw [stepC, if_pos g]; rfl
  have e1 := of_decide_eq_false e1
  have hc := h.cost (k := k) (i := nx b.m i d) (by omega) (by omega) k0 k1
  ((conv=>whnf);repeat((first|refine Ct ‹_› ?_|refine Cf ‹_› ?_|refine Ct rfl ?_|refine Cf rfl ?_|refine Bi rfl ?_|refine Bz rfl ?_|refine Lr ?_);conv=>whnf))
  refine CallQ_some (F_enterCost b h k _ (by omega) (by omega) k0 k1) rfl rfl ?_
  ((conv=>whnf);repeat((first|refine Ct ‹_› ?_|refine Cf ‹_› ?_|refine Ct rfl ?_|refine Cf rfl ?_|refine Bi rfl ?_|refine Bz rfl ?_|refine Lr ?_);conv=>whnf))
  refine Cnd_i (fun g => ?_) (fun e2 => ?_)
  · have g : costAt b k (nx b.m i d) = 0 := by simpa using g
    ((conv=>whnf);repeat((first|refine Ct ‹_› ?_|refine Cf ‹_› ?_|refine Ct rfl ?_|refine Cf rfl ?_|refine Bi rfl ?_|refine Bz rfl ?_|refine Lr ?_);conv=>whnf))
    refine ⟨?_, rfl, rfl⟩
    rw [stepC, if_neg e1, if_pos g]; rfl
  have e2 : ¬ costAt b k (nx b.m i d) = 0 := by simpa using e2
  ((conv=>whnf);repeat((first|refine Ct ‹_› ?_|refine Cf ‹_› ?_|refine Ct rfl ?_|refine Cf rfl ?_|refine Bi rfl ?_|refine Bz rfl ?_|refine Lr ?_);conv=>whnf))
  refine CallQ_some (F_edgeOf b.m h.wh i d i0 (by omega) d0 d5 (by omega)) rfl rfl ?_
  ((conv=>whnf);repeat((first|refine Ct ‹_› ?_|refine Cf ‹_› ?_|refine Ct rfl ?_|refine Cf rfl ?_|refine Bi rfl ?_|refine Bz rfl ?_|refine Lr ?_);conv=>whnf))
  refine CallQ_some (F_Contains _ _ h.ok.m.roa.len) rfl rfl ?_
  ((conv=>whnf);repeat((first|refine Ct ‹_› ?_|refine Cf ‹_› ?_|refine Ct rfl ?_|refine Cf rfl ?_|refine Bi rfl ?_|refine Bz rfl ?_|refine Lr ?_);conv=>whnf))
  refine Cnd_i (fun g => ?_) (fun e3 => ?_)
  · ((conv=>whnf);repeat((first|refine Ct ‹_› ?_|refine Cf ‹_› ?_|refine Ct rfl ?_|refine Cf rfl ?_|refine Bi rfl ?_|refine Bz rfl ?_|refine Lr ?_);conv=>whnf))
    refine CallQ_some (F_weatherCost w true w0 w2) rfl rfl ?_
    ((conv=>whnf);repeat((first|refine Ct ‹_› ?_|refine Cf ‹_› ?_|refine Ct rfl ?_|refine Cf rfl ?_|refine Bi rfl ?_|refine Bz rfl ?_|refine Lr ?_);conv=>whnf))
    refine ⟨?_, rfl, rfl⟩
    rw [wrapI (by omega), stepC, if_neg e1, if_neg e2, if_pos g]; rfl
  ((conv=>whnf);repeat((first|refine Ct ‹_› ?_|refine Cf ‹_› ?_|refine Ct rfl ?_|refine Cf rfl ?_|refine Bi rfl ?_|refine Bz rfl ?_|refine Lr ?_);conv=>whnf))
  refine CallQ_some (F_enterCost b h k _ (by omega) (by omega) k0 k1) rfl rfl ?_
  ((conv=>whnf);repeat((first|refine Ct ‹_› ?_|refine Cf ‹_› ?_|refine Ct rfl ?_|refine Cf rfl ?_|refine Bi rfl ?_|refine Bz rfl ?_|refine Lr ?_);conv=>whnf))
  refine CallQ_some (F_weatherCost w false w0 w2) rfl rfl ?_
  ((conv=>whnf);repeat((first|refine Ct ‹_› ?_|refine Cf ‹_› ?_|refine Ct rfl ?_|refine Cf rfl ?_|refine Bi rfl ?_|refine Bz rfl ?_|refine Lr ?_);conv=>whnf))
  refine CallQ_some (F_Contains _ _ h.ok.m.riv.len) rfl rfl ?_
  ((conv=>whnf);repeat((first|refine Ct ‹_› ?_|refine Cf ‹_› ?_|refine Ct rfl ?_|refine Cf rfl ?_|refine Bi rfl ?_|refine Bz rfl ?_|refine Lr ?_);conv=>whnf))
  have e3' : ¬ b.m.roa.contains (ed b.m i d) = true := by rw [e3]; simp
  rw [wrapI (n := costAt b k (nx b.m i d) + wx w false) (by omega)]
  refine Cnd_i (fun g => ?_) (fun g => ?_)
  · ((conv=>whnf);repeat((first|refine Ct ‹_› ?_|refine Cf ‹_› ?_|refine Ct rfl ?_|refine Cf rfl ?_|refine Bi rfl ?_|refine Bz rfl ?_|refine Lr ?_);conv=>whnf))
    refine ⟨?_, rfl, rfl⟩
    rw [wrapI (by omega), stepC, if_neg e1, if_neg e2, if_neg e3', if_pos g]; rfl
  · ((conv=>whnf);repeat((first|refine Ct ‹_› ?_|refine Cf ‹_› ?_|refine Ct rfl ?_|refine Cf rfl ?_|refine Bi rfl ?_|refine Bz rfl ?_|refine Lr ?_);conv=>whnf))
    refine ⟨?_, rfl, rfl⟩
    have g' : ¬ b.m.riv.contains (ed b.m i d) = true := by rw [g]; simp
    rw [stepC, if_neg e1, if_neg e2, if_neg e3', if_neg g']; rfl

def okIn (b : Brd) (k w i : Int) : Bool := okBrd b && In k 0 (b.r.knd.length - 1) && In i 0 (b.m.w * b.m.h - 1) && In w 0 2

structure InOk (b : Brd) (k w i : Int) : Prop where
  gb : GB b
  k : 0 ≤ k ∧ k < b.r.knd.length
  i : 0 ≤ i ∧ i < b.m.ter.length
  w : 0 ≤ w ∧ w ≤ 2

theorem InOk.of {b : Brd} (ho : b.Ok) {k w i : Int} (h : okIn b k w i = true) : InOk b k w i := by
  simp only [okIn, Bool.and_eq_true] at h
  obtain ⟨⟨⟨h1, h2⟩, h3⟩, h4⟩ := h
  have g := GB.of ho h1
  have a2 := of_decide_eq_true h2
  have a3 := of_decide_eq_true h3
  have a4 := of_decide_eq_true h4
  have := g.n
  exact ⟨g, by omega, by omega, a4⟩

abbrev twoR (m : Map) : Row := litRow true 1 [[roI m.riv], [roI m.roa]]

theorem F_IsMap (m : Map) (ho : m.Ok) : Fun E0 83 [.agg m.cs] [] (.v (vB (okMap m))) [] [] := by
  have hlt : m.ter.length ≤ 9223372036854775807 := ho.ter.len
  refine Fun_of_xc k83 rfl rfl (fun k q h => by cases h) ?_
  ((conv=>whnf);repeat((first|refine Ct ‹_› ?_|refine Cf ‹_› ?_|refine Ct rfl ?_|refine Cf rfl ?_|refine Bi rfl ?_|refine Bz rfl ?_|refine Lr ?_);conv=>whnf))
  refine CallQ_some (F_inRange _ _ _) rfl rfl ?_
  ((conv=>whnf);repeat((first|refine Ct ‹_› ?_|refine Cf ‹_› ?_|refine Ct rfl ?_|refine Cf rfl ?_|refine Bi rfl ?_|refine Bz rfl ?_|refine Lr ?_);conv=>whnf))
  refine Cnd_i (fun g => ?_) (fun e1 => ?_)
  · have g : In m.w 1 10 = false := by rw [Bool.not_eq_true'] at g; exact g
    ((conv=>whnf);repeat((first|refine Ct ‹_› ?_|refine Cf ‹_› ?_|refine Ct rfl ?_|refine Cf rfl ?_|refine Bi rfl ?_|refine Bz rfl ?_|refine Lr ?_);conv=>whnf))
    refine ⟨?_, rfl, rfl⟩
    simp only [okMap, g, Bool.false_and]
    rfl
  have e1 : In m.w 1 10 = true := by rw [Bool.not_eq_false'] at e1; exact e1
  ((conv=>whnf);repeat((first|refine Ct ‹_› ?_|refine Cf ‹_› ?_|refine Ct rfl ?_|refine Cf rfl ?_|refine Bi rfl ?_|refine Bz rfl ?_|refine Lr ?_);conv=>whnf))
  refine CallQ_some (F_inRange _ _ _) rfl rfl ?_
  ((conv=>whnf);repeat((first|refine Ct ‹_› ?_|refine Cf ‹_› ?_|refine Ct rfl ?_|refine Cf rfl ?_|refine Bi rfl ?_|refine Bz rfl ?_|refine Lr ?_);conv=>whnf))
  refine Cnd_i (fun g => ?_) (fun e2 => ?_)
  · have g : In m.h 1 10 = false := by rw [Bool.not_eq_true'] at g; exact g
    ((conv=>whnf);repeat((first|refine Ct ‹_› ?_|refine Cf ‹_› ?_|refine Ct rfl ?_|refine Cf rfl ?_|refine Bi rfl ?_|refine Bz rfl ?_|refine Lr ?_);conv=>whnf))
    refine ⟨?_, rfl, rfl⟩
    simp only [okMap, g, Bool.and_false, Bool.false_and]
    rfl
  have e2 : In m.h 1 10 = true := by rw [Bool.not_eq_false'] at e2; exact e2
  have hw : WH m := ⟨(of_decide_eq_true e1).1, (of_decide_eq_true e1).2, (of_decide_eq_true e2).1, (of_decide_eq_true e2).2⟩
  have hs := hw.mul
  ((conv=>whnf);repeat((first|refine Ct ‹_› ?_|refine Cf ‹_› ?_|refine Ct rfl ?_|refine Cf rfl ?_|refine Bi rfl ?_|refine Bz rfl ?_|refine Lr ?_);conv=>whnf))
  rw [wrapI (n := m.w * m.h) (by omega)]
  refine Cnd_i (fun g => ?_) (fun e3 => ?_)
  · have g : ((m.ter.length : Int) == m.w * m.h) = false := by simpa using g
    ((conv=>whnf);repeat((first|refine Ct ‹_› ?_|refine Cf ‹_› ?_|refine Ct rfl ?_|refine Cf rfl ?_|refine Bi rfl ?_|refine Bz rfl ?_|refine Lr ?_);conv=>whnf))
    refine ⟨?_, rfl, rfl⟩
    simp only [okMap, g, Bool.and_false, Bool.false_and]
    rfl
  have e3 : ((m.ter.length : Int) == m.w * m.h) = true := by simpa using e3
  ((conv=>whnf);repeat((first|refine Ct ‹_› ?_|refine Cf ‹_› ?_|refine Ct rfl ?_|refine Cf rfl ?_|refine Bi rfl ?_|refine Bz rfl ?_|refine Lr ?_);conv=>whnf))
  refine WLoop_v ⟨[1, 31, 32, 33], [1], []⟩ (fun i : Int => hdS 66 [(1, .v (.one (.box 1 0))), (31, .v (.one (roI m.ter))), (32, .v (vI m.ter.length)), (33, .v (vI i))] [(1, m.cs)] [])
    (fun k i => 0 ≤ i ∧ i + k = m.ter.length ∧ ∀ j : Nat, (j : Int) < i → In (m.ter.getD j 0) 0 5 = true) m.ter.length 0 rfl ⟨by omega, by omega, fun j hj => by omega⟩ ?_
  rintro k i ⟨h1, h2, h3⟩
  ((conv=>whnf);repeat((first|refine Ct ‹_› ?_|refine Cf ‹_› ?_|refine Ct rfl ?_|refine Cf rfl ?_|refine Bi rfl ?_|refine Bz rfl ?_|refine Lr ?_);conv=>whnf))
  refine Cnd_i (fun h => ?_) (fun h => ?_)
  · have hi' : i < m.ter.length := of_decide_eq_true h
    ((conv=>whnf);repeat((first|refine Ct ‹_› ?_|refine Cf ‹_› ?_|refine Ct rfl ?_|refine Cf rfl ?_|refine Bi rfl ?_|refine Bz rfl ?_|refine Lr ?_);conv=>whnf))
    refine Bnd_i ⟨h1, hi'⟩ ?_
    ((conv=>whnf);repeat((first|refine Ct ‹_› ?_|refine Cf ‹_› ?_|refine Ct rfl ?_|refine Cf rfl ?_|refine Bi rfl ?_|refine Bz rfl ?_|refine Lr ?_);conv=>whnf))
    refine CallQ_some (F_isIndex _ 6 (by unfold i64; omega)) rfl rfl ?_
    ((conv=>whnf);repeat((first|refine Ct ‹_› ?_|refine Cf ‹_› ?_|refine Ct rfl ?_|refine Cf rfl ?_|refine Bi rfl ?_|refine Bz rfl ?_|refine Lr ?_);conv=>whnf))
    refine Cnd_i (fun g => ?_) (fun g => ?_)
    · have g : In (m.ter.getD i.toNat 0) 0 5 = false := by rw [Bool.not_eq_true'] at g; exact g
      ((conv=>whnf);repeat((first|refine Ct ‹_› ?_|refine Cf ‹_› ?_|refine Ct rfl ?_|refine Cf rfl ?_|refine Bi rfl ?_|refine Bz rfl ?_|refine Lr ?_);conv=>whnf))
      refine ⟨?_, rfl, rfl⟩
      have := all_not (p := fun t => In t 0 5) h1 hi' g
      simp only [okMap, this, Bool.and_false, Bool.false_and]
      rfl
    have g : In (m.ter.getD i.toNat 0) 0 5 = true := by rw [Bool.not_eq_false'] at g; exact g
    ((conv=>whnf);repeat((first|refine Ct ‹_› ?_|refine Cf ‹_› ?_|refine Ct rfl ?_|refine Cf rfl ?_|refine Bi rfl ?_|refine Bz rfl ?_|refine Lr ?_);conv=>whnf))
    refine ⟨k - 1, _, rfl, ?_, ?_, ?_, ?_⟩
    · omega
    · rw [wrapI (by omega)]; omega
    · rw [wrapI (by omega)]; omega
    · rw [wrapI (by omega)]
      intro j hj
      by_cases e : (j : Int) < i
      · exact h3 j e
      · have e : j = i.toNat := by omega
        subst e; exact g
  have hi' := of_decide_eq_false h
  have e4 : (m.ter.all fun t => In t 0 5) = true := all_upto (fun j hj => h3 j (by omega))
  have fin : okMap m = (edgesOk m m.riv && edgesOk m m.roa) := by simp only [okMap, e1, e2, e3, e4, Bool.true_and]
  rw [fin]
  ((conv=>whnf);repeat((first|refine Ct ‹_› ?_|refine Cf ‹_› ?_|refine Ct rfl ?_|refine Cf rfl ?_|refine Bi rfl ?_|refine Bz rfl ?_|refine Lr ?_);conv=>whnf))
  refine Rw_self ?_
  ((conv=>whnf);repeat((first|refine Ct ‹_› ?_|refine Cf ‹_› ?_|refine Ct rfl ?_|refine Cf rfl ?_|refine Bi rfl ?_|refine Bz rfl ?_|refine Lr ?_);conv=>whnf))
  refine WLoop_v ⟨[1, 45, 46, 47], [1], []⟩ (fun i : Int => hdS 66 [(1, .v (.one (.box 1 0))), (45, .v (.one (.own (vkey 45) 2))), (46, .v (vI 2)), (47, .v (vI i))] [(1, m.cs)] [(vkey 45, twoR m)])
    (fun k i => (i = 0 ∧ k = 2) ∨ (i = 1 ∧ k = 1 ∧ edgesOk m m.riv = true) ∨ (i = 2 ∧ k = 0 ∧ edgesOk m m.riv = true ∧ edgesOk m m.roa = true)) 2 0 rfl (.inl ⟨rfl, rfl⟩) ?_
  clear h h1 h2 h3 hi' k i
  rintro k i (⟨rfl, rfl⟩ | ⟨rfl, rfl, q1⟩ | ⟨rfl, rfl, q1, q2⟩)
  · ((conv=>whnf);repeat((first|refine Ct ‹_› ?_|refine Cf ‹_› ?_|refine Ct rfl ?_|refine Cf rfl ?_|refine Bi rfl ?_|refine Bz rfl ?_|refine Lr ?_);conv=>whnf))
    refine Bnd_i (by decide) ?_
    ((conv=>whnf);repeat((first|refine Ct ‹_› ?_|refine Cf ‹_› ?_|refine Ct rfl ?_|refine Cf rfl ?_|refine Bi rfl ?_|refine Bz rfl ?_|refine Lr ?_);conv=>whnf))
    refine CallQ_some (F_increasing m.riv ho.riv.len) rfl rfl ?_
    ((conv=>whnf);repeat((first|refine Ct ‹_› ?_|refine Cf ‹_› ?_|refine Ct rfl ?_|refine Cf rfl ?_|refine Bi rfl ?_|refine Bz rfl ?_|refine Lr ?_);conv=>whnf))
    refine Cnd_i (fun g => ?_) (fun r1 => ?_)
    · have g : rising m.riv = false := by rw [Bool.not_eq_true'] at g; exact g
      ((conv=>whnf);repeat((first|refine Ct ‹_› ?_|refine Cf ‹_› ?_|refine Ct rfl ?_|refine Cf rfl ?_|refine Bi rfl ?_|refine Bz rfl ?_|refine Lr ?_);conv=>whnf))
      refine ⟨?_, rfl, rfl⟩
      have : edgesOk m m.riv = false := by simp only [edgesOk, g, Bool.and_false]
      simp only [this, Bool.and_false, Bool.false_and]
      rfl
    have r1 : rising m.riv = true := by rw [Bool.not_eq_false'] at r1; exact r1
    ((conv=>whnf);repeat((first|refine Ct ‹_› ?_|refine Cf ‹_› ?_|refine Ct rfl ?_|refine Cf rfl ?_|refine Bi rfl ?_|refine Bz rfl ?_|refine Lr ?_);conv=>whnf))
    have hll : m.riv.length ≤ 9223372036854775807 := ho.riv.len
    refine WLoop_v ⟨[1, 45, 46, 47, 54, 55, 56], [1], []⟩ (fun i : Int => hdS 66 [(1, .v (.one (.box 1 0))), (45, .v (.one (.own (vkey 45) 2))), (46, .v (vI 2)), (47, .v (vI 0)), (54, .v (.one (roI m.riv))), (55, .v (vI m.riv.length)), (56, .v (vI i))] [(1, m.cs)] [(vkey 45, twoR m)])
      (fun k i => 0 ≤ i ∧ i + k = m.riv.length ∧ ∀ j : Nat, (j : Int) < i → onEdge m (m.riv.getD j 0) = true) m.riv.length 0 rfl ⟨by omega, by omega, fun j hj => by omega⟩ ?_
    rintro k i ⟨h1, h2, h3⟩
    ((conv=>whnf);repeat((first|refine Ct ‹_› ?_|refine Cf ‹_› ?_|refine Ct rfl ?_|refine Cf rfl ?_|refine Bi rfl ?_|refine Bz rfl ?_|refine Lr ?_);conv=>whnf))
    refine Cnd_i (fun h => ?_) (fun h => ?_)
    · have hi' : i < m.riv.length := of_decide_eq_true h
      ((conv=>whnf);repeat((first|refine Ct ‹_› ?_|refine Cf ‹_› ?_|refine Ct rfl ?_|refine Cf rfl ?_|refine Bi rfl ?_|refine Bz rfl ?_|refine Lr ?_);conv=>whnf))
      refine Bnd_i ⟨h1, hi'⟩ ?_
      ((conv=>whnf);repeat((first|refine Ct ‹_› ?_|refine Cf ‹_› ?_|refine Ct rfl ?_|refine Cf rfl ?_|refine Bi rfl ?_|refine Bz rfl ?_|refine Lr ?_);conv=>whnf))
      refine CallQ_some (F_isEdge m hw _) rfl rfl ?_
      ((conv=>whnf);repeat((first|refine Ct ‹_› ?_|refine Cf ‹_› ?_|refine Ct rfl ?_|refine Cf rfl ?_|refine Bi rfl ?_|refine Bz rfl ?_|refine Lr ?_);conv=>whnf))
      refine Cnd_i (fun g => ?_) (fun g => ?_)
      · have g : onEdge m (m.riv.getD i.toNat 0) = false := by rw [Bool.not_eq_true'] at g; exact g
        ((conv=>whnf);repeat((first|refine Ct ‹_› ?_|refine Cf ‹_› ?_|refine Ct rfl ?_|refine Cf rfl ?_|refine Bi rfl ?_|refine Bz rfl ?_|refine Lr ?_);conv=>whnf))
        refine ⟨?_, rfl, rfl⟩
        have := all_not (p := fun e => onEdge m e) h1 hi' g
        have : edgesOk m m.riv = false := by simp only [edgesOk, this, Bool.false_and]
        simp only [this, Bool.and_false, Bool.false_and]
        rfl
      have g : onEdge m (m.riv.getD i.toNat 0) = true := by rw [Bool.not_eq_false'] at g; exact g
      ((conv=>whnf);repeat((first|refine Ct ‹_› ?_|refine Cf ‹_› ?_|refine Ct rfl ?_|refine Cf rfl ?_|refine Bi rfl ?_|refine Bz rfl ?_|refine Lr ?_);conv=>whnf))
      refine ⟨k - 1, _, rfl, ?_, ?_, ?_, ?_⟩
      · omega
      · rw [wrapI (by omega)]; omega
      · rw [wrapI (by omega)]; omega
      · rw [wrapI (by omega)]
        intro j hj
        by_cases e : (j : Int) < i
        · exact h3 j e
        · have e : j = i.toNat := by omega
          subst e; exact g
    have hi' := of_decide_eq_false h
    have r2 : (m.riv.all fun e => onEdge m e) = true := all_upto (fun j hj => h3 j (by omega))
    have r3 : edgesOk m m.riv = true := by simp only [edgesOk, r1, r2, Bool.and_self]
    ((conv=>whnf);repeat((first|refine Ct ‹_› ?_|refine Cf ‹_› ?_|refine Ct rfl ?_|refine Cf rfl ?_|refine Bi rfl ?_|refine Bz rfl ?_|refine Lr ?_);conv=>whnf))
    exact ⟨1, _, rfl, by omega, .inr (.inl ⟨rfl, rfl, r3⟩)⟩
  · ((conv=>whnf);repeat((first|refine Ct ‹_› ?_|refine Cf ‹_› ?_|refine Ct rfl ?_|refine Cf rfl ?_|refine Bi rfl ?_|refine Bz rfl ?_|refine Lr ?_);conv=>whnf))
    refine Bnd_i (by decide) ?_
    ((conv=>whnf);repeat((first|refine Ct ‹_› ?_|refine Cf ‹_› ?_|refine Ct rfl ?_|refine Cf rfl ?_|refine Bi rfl ?_|refine Bz rfl ?_|refine Lr ?_);conv=>whnf))
    refine CallQ_some (F_increasing m.roa ho.roa.len) rfl rfl ?_
    ((conv=>whnf);repeat((first|refine Ct ‹_› ?_|refine Cf ‹_› ?_|refine Ct rfl ?_|refine Cf rfl ?_|refine Bi rfl ?_|refine Bz rfl ?_|refine Lr ?_);conv=>whnf))
    refine Cnd_i (fun g => ?_) (fun r1 => ?_)
    · have g : rising m.roa = false := by rw [Bool.not_eq_true'] at g; exact g
      ((conv=>whnf);repeat((first|refine Ct ‹_› ?_|refine Cf ‹_› ?_|refine Ct rfl ?_|refine Cf rfl ?_|refine Bi rfl ?_|refine Bz rfl ?_|refine Lr ?_);conv=>whnf))
      refine ⟨?_, rfl, rfl⟩
      have : edgesOk m m.roa = false := by simp only [edgesOk, g, Bool.and_false]
      simp only [this, Bool.and_false, Bool.false_and]
      rfl
    have r1 : rising m.roa = true := by rw [Bool.not_eq_false'] at r1; exact r1
    ((conv=>whnf);repeat((first|refine Ct ‹_› ?_|refine Cf ‹_› ?_|refine Ct rfl ?_|refine Cf rfl ?_|refine Bi rfl ?_|refine Bz rfl ?_|refine Lr ?_);conv=>whnf))
    have hll : m.roa.length ≤ 9223372036854775807 := ho.roa.len
    refine WLoop_v ⟨[1, 45, 46, 47, 54, 55, 56], [1], []⟩ (fun i : Int => hdS 66 [(1, .v (.one (.box 1 0))), (45, .v (.one (.own (vkey 45) 2))), (46, .v (vI 2)), (47, .v (vI 1)), (54, .v (.one (roI m.roa))), (55, .v (vI m.roa.length)), (56, .v (vI i))] [(1, m.cs)] [(vkey 45, twoR m)])
      (fun k i => 0 ≤ i ∧ i + k = m.roa.length ∧ ∀ j : Nat, (j : Int) < i → onEdge m (m.roa.getD j 0) = true) m.roa.length 0 rfl ⟨by omega, by omega, fun j hj => by omega⟩ ?_
    rintro k i ⟨h1, h2, h3⟩
    ((conv=>whnf);repeat((first|refine Ct ‹_› ?_|refine Cf ‹_› ?_|refine Ct rfl ?_|refine Cf rfl ?_|refine Bi rfl ?_|refine Bz rfl ?_|refine Lr ?_);conv=>whnf))
    refine Cnd_i (fun h => ?_) (fun h => ?_)
    · have hi' : i < m.roa.length := of_decide_eq_true h
      ((conv=>whnf);repeat((first|refine Ct ‹_› ?_|refine Cf ‹_› ?_|refine Ct rfl ?_|refine Cf rfl ?_|refine Bi rfl ?_|refine Bz rfl ?_|refine Lr ?_);conv=>whnf))
      refine Bnd_i ⟨h1, hi'⟩ ?_
      ((conv=>whnf);repeat((first|refine Ct ‹_› ?_|refine Cf ‹_› ?_|refine Ct rfl ?_|refine Cf rfl ?_|refine Bi rfl ?_|refine Bz rfl ?_|refine Lr ?_);conv=>whnf))
      refine CallQ_some (F_isEdge m hw _) rfl rfl ?_
      ((conv=>whnf);repeat((first|refine Ct ‹_› ?_|refine Cf ‹_› ?_|refine Ct rfl ?_|refine Cf rfl ?_|refine Bi rfl ?_|refine Bz rfl ?_|refine Lr ?_);conv=>whnf))
      refine Cnd_i (fun g => ?_) (fun g => ?_)
      · have g : onEdge m (m.roa.getD i.toNat 0) = false := by rw [Bool.not_eq_true'] at g; exact g
        ((conv=>whnf);repeat((first|refine Ct ‹_› ?_|refine Cf ‹_› ?_|refine Ct rfl ?_|refine Cf rfl ?_|refine Bi rfl ?_|refine Bz rfl ?_|refine Lr ?_);conv=>whnf))
        refine ⟨?_, rfl, rfl⟩
        have := all_not (p := fun e => onEdge m e) h1 hi' g
        have : edgesOk m m.roa = false := by simp only [edgesOk, this, Bool.false_and]
        simp only [this, Bool.and_false, Bool.false_and]
        rfl
      have g : onEdge m (m.roa.getD i.toNat 0) = true := by rw [Bool.not_eq_false'] at g; exact g
      ((conv=>whnf);repeat((first|refine Ct ‹_› ?_|refine Cf ‹_› ?_|refine Ct rfl ?_|refine Cf rfl ?_|refine Bi rfl ?_|refine Bz rfl ?_|refine Lr ?_);conv=>whnf))
      refine ⟨k - 1, _, rfl, ?_, ?_, ?_, ?_⟩
      · omega
      · rw [wrapI (by omega)]; omega
      · rw [wrapI (by omega)]; omega
      · rw [wrapI (by omega)]
        intro j hj
        by_cases e : (j : Int) < i
        · exact h3 j e
        · have e : j = i.toNat := by omega
          subst e; exact g
    have hi' := of_decide_eq_false h
    have r2 : (m.roa.all fun e => onEdge m e) = true := all_upto (fun j hj => h3 j (by omega))
    have r3 : edgesOk m m.roa = true := by simp only [edgesOk, r1, r2, Bool.and_self]
    ((conv=>whnf);repeat((first|refine Ct ‹_› ?_|refine Cf ‹_› ?_|refine Ct rfl ?_|refine Cf rfl ?_|refine Bi rfl ?_|refine Bz rfl ?_|refine Lr ?_);conv=>whnf))
    exact ⟨0, _, rfl, by omega, .inr (.inr ⟨rfl, rfl, q1, r3⟩)⟩
  · ((conv=>whnf);repeat((first|refine Ct ‹_› ?_|refine Cf ‹_› ?_|refine Ct rfl ?_|refine Cf rfl ?_|refine Bi rfl ?_|refine Bz rfl ?_|refine Lr ?_);conv=>whnf))
    refine ⟨?_, rfl, rfl⟩
    rw [q1, q2]; rfl

theorem F_IsBoard_1 (b : Brd) (t : Int) : Fun E0 85 [vI t, .one (.pro 12 fun j => nth b.cs j)] [] (.v (vB (decide (t ≥ (b.r.ter.length : Int))))) [] [] := by
  refine Fun_of_xc k85 rfl rfl (fun k q h => by cases h) ?_
  ((conv=>whnf);repeat((first|refine Ct ‹_› ?_|refine Cf ‹_› ?_|refine Ct rfl ?_|refine Cf rfl ?_|refine Bi rfl ?_|refine Bz rfl ?_|refine Lr ?_);conv=>whnf))
  exact ⟨rfl, rfl, rfl⟩

theorem F_IsBoard (b : Brd) (ho : b.Ok) : Fun E0 76 [.agg b.cs] [] (.v (vB (okBrd b))) [] [] := by
  refine Fun_of_xc k76 rfl rfl (fun k q h => by cases h) ?_
  ((conv=>whnf);repeat((first|refine Ct ‹_› ?_|refine Cf ‹_› ?_|refine Ct rfl ?_|refine Cf rfl ?_|refine Bi rfl ?_|refine Bz rfl ?_|refine Lr ?_);conv=>whnf))
  refine CallQ_some (F_IsRules b.r ho.r) rfl rfl ?_
  ((conv=>whnf);repeat((first|refine Ct ‹_› ?_|refine Cf ‹_› ?_|refine Ct rfl ?_|refine Cf rfl ?_|refine Bi rfl ?_|refine Bz rfl ?_|refine Lr ?_);conv=>whnf))
  refine Cnd_i (fun g => ?_) (fun e1 => ?_)
  · have g : okRul b.r = false := by rw [Bool.not_eq_true'] at g; exact g
    ((conv=>whnf);repeat((first|refine Ct ‹_› ?_|refine Cf ‹_› ?_|refine Ct rfl ?_|refine Cf rfl ?_|refine Bi rfl ?_|refine Bz rfl ?_|refine Lr ?_);conv=>whnf))
    refine ⟨?_, rfl, rfl⟩
    simp only [okBrd, g, Bool.false_and]
    rfl
  have e1 : okRul b.r = true := by rw [Bool.not_eq_false'] at e1; exact e1
  ((conv=>whnf);repeat((first|refine Ct ‹_› ?_|refine Cf ‹_› ?_|refine Ct rfl ?_|refine Cf rfl ?_|refine Bi rfl ?_|refine Bz rfl ?_|refine Lr ?_);conv=>whnf))
  refine CallQ_some (F_IsMap b.m ho.m) rfl rfl ?_
  ((conv=>whnf);repeat((first|refine Ct ‹_› ?_|refine Cf ‹_› ?_|refine Ct rfl ?_|refine Cf rfl ?_|refine Bi rfl ?_|refine Bz rfl ?_|refine Lr ?_);conv=>whnf))
  refine Cnd_i (fun g => ?_) (fun e2 => ?_)
  · have g : okMap b.m = false := by rw [Bool.not_eq_true'] at g; exact g
    ((conv=>whnf);repeat((first|refine Ct ‹_› ?_|refine Cf ‹_› ?_|refine Ct rfl ?_|refine Cf rfl ?_|refine Bi rfl ?_|refine Bz rfl ?_|refine Lr ?_);conv=>whnf))
    refine ⟨?_, rfl, rfl⟩
    simp only [okBrd, g, Bool.and_false, Bool.false_and]
    rfl
  have e2 : okMap b.m = true := by rw [Bool.not_eq_false'] at e2; exact e2
  ((conv=>whnf);repeat((first|refine Ct ‹_› ?_|refine Cf ‹_› ?_|refine Ct rfl ?_|refine Cf rfl ?_|refine Bi rfl ?_|refine Bz rfl ?_|refine Lr ?_);conv=>whnf))
  refine CallQ_some (F_ContainsFuncI b.m.ter (fun t => decide (t ≥ (b.r.ter.length : Int))) 85 1 _ _ [.one (.pro 12 fun j => nth b.cs j)] rfl ho.m.ter.len (fun x _ => F_IsBoard_1 b x)) rfl rfl ?_
  ((conv=>whnf);repeat((first|refine Ct ‹_› ?_|refine Cf ‹_› ?_|refine Ct rfl ?_|refine Cf rfl ?_|refine Bi rfl ?_|refine Bz rfl ?_|refine Lr ?_);conv=>whnf))
  refine ⟨?_, rfl, rfl⟩
  have : (!(b.m.ter.any fun t => decide (t ≥ (b.r.ter.length : Int)))) = b.m.ter.all fun t => In t 0 (b.r.ter.length - 1) := by
    have hm := e2
    simp only [okMap, Bool.and_eq_true] at hm
    have h5 := List.all_eq_true.1 hm.1.1.2
    rw [List.not_any_eq_all_not, Bool.eq_iff_iff, List.all_eq_true, List.all_eq_true]
    constructor
    · intro h x hx
      have h1 := h x hx
      have h2 := of_decide_eq_true (h5 x hx)
      simp at h1
      simp only [In, decide_eq_true_eq]; omega
    · intro h x hx
      have h1 := of_decide_eq_true (h x hx)
      simp; omega
  rw [this]
  simp only [okBrd, e1, e2, Bool.true_and]
  rfl

theorem F_isKindOf (b : Brd) (ho : b.Ok) (k : Int) : Fun E0 64 [.agg b.cs, vI k] [] (.v (vB (okBrd b && In k 0 (b.r.knd.length - 1)))) [] [] := by
  have hlk : b.r.knd.length ≤ 9223372036854775807 := ho.r.lknd
  refine Fun_of_xc k64 rfl rfl (fun k q h => by cases h) ?_
  ((conv=>whnf);repeat((first|refine Ct ‹_› ?_|refine Cf ‹_› ?_|refine Ct rfl ?_|refine Cf rfl ?_|refine Bi rfl ?_|refine Bz rfl ?_|refine Lr ?_);conv=>whnf))
  refine CallQ_some (F_IsBoard b ho) rfl rfl ?_
  ((conv=>whnf);repeat((first|refine Ct ‹_› ?_|refine Cf ‹_› ?_|refine Ct rfl ?_|refine Cf rfl ?_|refine Bi rfl ?_|refine Bz rfl ?_|refine Lr ?_);conv=>whnf))
  refine Cnd_i (fun e1 => ?_) (fun g => ?_)
  · ((conv=>whnf);repeat((first|refine Ct ‹_› ?_|refine Cf ‹_› ?_|refine Ct rfl ?_|refine Cf rfl ?_|refine Bi rfl ?_|refine Bz rfl ?_|refine Lr ?_);conv=>whnf))
    refine CallQ_some (F_isIndex _ _ (by unfold i64; omega)) rfl rfl ?_
    ((conv=>whnf);repeat((first|refine Ct ‹_› ?_|refine Cf ‹_› ?_|refine Ct rfl ?_|refine Cf rfl ?_|refine Bi rfl ?_|refine Bz rfl ?_|refine Lr ?_);conv=>whnf))
    refine ⟨?_, rfl, rfl⟩
    simp only [e1, Bool.true_and]
    rfl
  · ((conv=>whnf);repeat((first|refine Ct ‹_› ?_|refine Cf ‹_› ?_|refine Ct rfl ?_|refine Cf rfl ?_|refine Bi rfl ?_|refine Bz rfl ?_|refine Lr ?_);conv=>whnf))
    refine ⟨?_, rfl, rfl⟩
    simp only [g, Bool.false_and]
    rfl

theorem F_isMover (b : Brd) (ho : b.Ok) (k w i : Int) : Fun E0 44 [.agg b.cs, vI k, vI w, vI i] [] (.v (vB (okIn b k w i))) [] [] := by
  have hlt : b.m.ter.length ≤ 9223372036854775807 := ho.m.ter.len
  refine Fun_of_xc k44 rfl rfl (fun k q h => by cases h) ?_
  ((conv=>whnf);repeat((first|refine Ct ‹_› ?_|refine Cf ‹_› ?_|refine Ct rfl ?_|refine Cf rfl ?_|refine Bi rfl ?_|refine Bz rfl ?_|refine Lr ?_);conv=>whnf))
  refine CallQ_some (F_isKindOf b ho k) rfl rfl ?_
  ((conv=>whnf);repeat((first|refine Ct ‹_› ?_|refine Cf ‹_› ?_|refine Ct rfl ?_|refine Cf rfl ?_|refine Bi rfl ?_|refine Bz rfl ?_|refine Lr ?_);conv=>whnf))
  refine Cnd_i (fun e1 => ?_) (fun g => ?_)
  · have hb : okBrd b = true := by simp only [Bool.and_eq_true] at e1; exact e1.1
    have hn := (GB.of ho hb).n
    ((conv=>whnf);repeat((first|refine Ct ‹_› ?_|refine Cf ‹_› ?_|refine Ct rfl ?_|refine Cf rfl ?_|refine Bi rfl ?_|refine Bz rfl ?_|refine Lr ?_);conv=>whnf))
    refine CallQ_some (F_isWeather _) rfl rfl ?_
    ((conv=>whnf);repeat((first|refine Ct ‹_› ?_|refine Cf ‹_› ?_|refine Ct rfl ?_|refine Cf rfl ?_|refine Bi rfl ?_|refine Bz rfl ?_|refine Lr ?_);conv=>whnf))
    refine Cnd_i (fun e2 => ?_) (fun g => ?_)
    · ((conv=>whnf);repeat((first|refine Ct ‹_› ?_|refine Cf ‹_› ?_|refine Ct rfl ?_|refine Cf rfl ?_|refine Bi rfl ?_|refine Bz rfl ?_|refine Lr ?_);conv=>whnf))
      refine CallQ_some (F_sizeOf b) rfl rfl ?_
      ((conv=>whnf);repeat((first|refine Ct ‹_› ?_|refine Cf ‹_› ?_|refine Ct rfl ?_|refine Cf rfl ?_|refine Bi rfl ?_|refine Bz rfl ?_|refine Lr ?_);conv=>whnf))
      refine CallQ_some (F_isIndex _ _ (by unfold i64; omega)) rfl rfl ?_
      ((conv=>whnf);repeat((first|refine Ct ‹_› ?_|refine Cf ‹_› ?_|refine Ct rfl ?_|refine Cf rfl ?_|refine Bi rfl ?_|refine Bz rfl ?_|refine Lr ?_);conv=>whnf))
      refine ⟨?_, rfl, rfl⟩
      rw [hn]
      simp only [okIn, e1, e2, Bool.true_and, Bool.and_true]
      rfl
    · ((conv=>whnf);repeat((first|refine Ct ‹_› ?_|refine Cf ‹_› ?_|refine Ct rfl ?_|refine Cf rfl ?_|refine Bi rfl ?_|refine Bz rfl ?_|refine Lr ?_);conv=>whnf))
      refine ⟨?_, rfl, rfl⟩
      simp only [okIn, g, Bool.and_false]
      rfl
  · ((conv=>whnf);repeat((first|refine Ct ‹_› ?_|refine Cf ‹_› ?_|refine Ct rfl ?_|refine Cf rfl ?_|refine Bi rfl ?_|refine Bz rfl ?_|refine Lr ?_);conv=>whnf))
    refine ⟨?_, rfl, rfl⟩
    simp only [okIn, g, Bool.false_and]
    rfl

/-- what is left when so much is taken, or -1 -/
def sub1 (left n : Int) : Int := if left - n < 0 then -1 else left - n

theorem F_szIntS (l : List Int) (left : Int) (hl : l.length ≤ maxLen) (h0 : 0 ≤ left) (h1 : left ≤ 1048576) : Fun E0 29 [.one (roI l), vI left] [] (.v (vI (sub1 left l.length))) [] [] := by
  have hl : l.length ≤ 9223372036854775807 := hl
  refine Fun_of_xc k29 rfl rfl (fun k q h => by cases h) ?_
  ((conv=>whnf);repeat((first|refine Ct ‹_› ?_|refine Cf ‹_› ?_|refine Ct rfl ?_|refine Cf rfl ?_|refine Bi rfl ?_|refine Bz rfl ?_|refine Lr ?_);conv=>whnf))
  rw [wrapI (n := left - l.length) (by omega)]
  refine Cnd_i (fun g => ?_) (fun g => ?_)
  · have g := of_decide_eq_true g
    ((conv=>whnf);repeat((first|refine Ct ‹_› ?_|refine Cf ‹_› ?_|refine Ct rfl ?_|refine Cf rfl ?_|refine Bi rfl ?_|refine Bz rfl ?_|refine Lr ?_);conv=>whnf))
    refine ⟨?_, rfl, rfl⟩
    rw [sub1, if_pos g]; rfl
  · have g := of_decide_eq_false g
    ((conv=>whnf);repeat((first|refine Ct ‹_› ?_|refine Cf ‹_› ?_|refine Ct rfl ?_|refine Cf rfl ?_|refine Bi rfl ?_|refine Bz rfl ?_|refine Lr ?_);conv=>whnf))
    refine ⟨?_, rfl, rfl⟩
    rw [sub1, if_neg g]; rfl

theorem sub1_b {left n : Int} (h0 : 0 ≤ left) (h1 : left ≤ 1048576) (hn : 0 ≤ n) : (sub1 left n = -1 ∧ left < n) ∨ (sub1 left n = left - n ∧ n ≤ left) := by
  unfold sub1
  by_cases h : left - n < 0
  · rw [if_pos h]; exact .inl ⟨rfl, by omega⟩
  · rw [if_neg h]; exact .inr ⟨rfl, by omega⟩

def szT (t : Ter) (left : Int) : Int := if left - t.name.size < 0 then -1 else sub1 (left - t.name.size) t.cost.length

theorem F_szTerrain (t : Ter) (ht : t.Ok) (left : Int) (h0 : 0 ≤ left) (h1 : left ≤ 1048576) : Fun E0 57 [.agg t.cs, vI left] [] (.v (vI (szT t left))) [] [] := by
  have hs : t.name.size ≤ 9223372036854775807 := ht.name
  refine Fun_of_xc k57 rfl rfl (fun k q h => by cases h) ?_
  ((conv=>whnf);repeat((first|refine Ct ‹_› ?_|refine Cf ‹_› ?_|refine Ct rfl ?_|refine Cf rfl ?_|refine Bi rfl ?_|refine Bz rfl ?_|refine Lr ?_);conv=>whnf))
  rw [wrapI (n := left - t.name.size) (by omega)]
  refine Cnd_i (fun g => ?_) (fun g => ?_)
  · have g := of_decide_eq_true g
    ((conv=>whnf);repeat((first|refine Ct ‹_› ?_|refine Cf ‹_› ?_|refine Ct rfl ?_|refine Cf rfl ?_|refine Bi rfl ?_|refine Bz rfl ?_|refine Lr ?_);conv=>whnf))
    refine ⟨?_, rfl, rfl⟩
    rw [szT, if_pos g]; rfl
  have g := of_decide_eq_false g
  ((conv=>whnf);repeat((first|refine Ct ‹_› ?_|refine Cf ‹_› ?_|refine Ct rfl ?_|refine Cf rfl ?_|refine Bi rfl ?_|refine Bz rfl ?_|refine Lr ?_);conv=>whnf))
  refine CallQ_some (F_szIntS t.cost _ ht.cost.len (by omega) (by omega)) rfl rfl ?_
  ((conv=>whnf);repeat((first|refine Ct ‹_› ?_|refine Cf ‹_› ?_|refine Ct rfl ?_|refine Cf rfl ?_|refine Bi rfl ?_|refine Bz rfl ?_|refine Lr ?_);conv=>whnf))
  have hb := sub1_b (left := left - t.name.size) (n := t.cost.length) (by omega) (by omega) (by omega)
  refine Cnd_i (fun g2 => ?_) (fun g2 => ?_)
  · have g2 := of_decide_eq_true g2
    ((conv=>whnf);repeat((first|refine Ct ‹_› ?_|refine Cf ‹_› ?_|refine Ct rfl ?_|refine Cf rfl ?_|refine Bi rfl ?_|refine Bz rfl ?_|refine Lr ?_);conv=>whnf))
    refine ⟨?_, rfl, rfl⟩
    have : sub1 (left - t.name.size) t.cost.length = -1 := by omega
    rw [szT, if_neg g, this]; rfl
  · ((conv=>whnf);repeat((first|refine Ct ‹_› ?_|refine Cf ‹_› ?_|refine Ct rfl ?_|refine Cf rfl ?_|refine Bi rfl ?_|refine Bz rfl ?_|refine Lr ?_);conv=>whnf))
    refine ⟨?_, rfl, rfl⟩
    rw [szT, if_neg g]; rfl

def szK (t : Knd) (left : Int) : Int := sub1 left t.name.size

theorem F_szKind (t : Knd) (ht : t.Ok) (left : Int) (h0 : 0 ≤ left) (h1 : left ≤ 1048576) : Fun E0 58 [.agg t.cs, vI left] [] (.v (vI (szK t left))) [] [] := by
  have hs : t.name.size ≤ 9223372036854775807 := ht.name
  refine Fun_of_xc k58 rfl rfl (fun k q h => by cases h) ?_
  ((conv=>whnf);repeat((first|refine Ct ‹_› ?_|refine Cf ‹_› ?_|refine Ct rfl ?_|refine Cf rfl ?_|refine Bi rfl ?_|refine Bz rfl ?_|refine Lr ?_);conv=>whnf))
  rw [wrapI (n := left - t.name.size) (by omega)]
  refine Cnd_i (fun g => ?_) (fun g => ?_)
  · have g := of_decide_eq_true g
    ((conv=>whnf);repeat((first|refine Ct ‹_› ?_|refine Cf ‹_› ?_|refine Ct rfl ?_|refine Cf rfl ?_|refine Bi rfl ?_|refine Bz rfl ?_|refine Lr ?_);conv=>whnf))
    refine ⟨?_, rfl, rfl⟩
    rw [szK, sub1, if_pos g]; rfl
  · have g := of_decide_eq_false g
    ((conv=>whnf);repeat((first|refine Ct ‹_› ?_|refine Cf ‹_› ?_|refine Ct rfl ?_|refine Cf rfl ?_|refine Bi rfl ?_|refine Bz rfl ?_|refine Lr ?_);conv=>whnf))
    refine ⟨?_, rfl, rfl⟩
    rw [szK, sub1, if_neg g]; rfl

def szL {α : Type} (f : α → Int → Int) : List α → Int → Int
  | [], left => left
  | a :: l, left => if f a left < 0 then -1 else szL f l (f a left)

def szS {α : Type} (f : α → Int → Int) (l : List α) (left : Int) : Int := if left - l.length < 0 then -1 else szL f l (left - l.length)

theorem drop_get {α : Type} {l : List α} {d : α} {i : Int} (h0 : 0 ≤ i) (h1 : i < l.length) : l.drop i.toNat = l.getD i.toNat d :: l.drop (i + 1).toNat := by
  have hl : i.toNat < l.length := by omega
  rw [List.drop_eq_getElem_cons hl, show (i + 1).toNat = i.toNat + 1 by omega]
  simp [hl]

theorem szT_b {t : Ter} {left : Int} (h0 : 0 ≤ left) (h1 : left ≤ 1048576) : szT t left ≤ 1048576 ∧ (szT t left < 0 → szT t left = -1) := by
  unfold szT
  by_cases g : left - t.name.size < 0
  · rw [if_pos g]; exact ⟨by omega, fun _ => rfl⟩
  · rw [if_neg g]
    have := sub1_b (left := left - t.name.size) (n := t.cost.length) (by omega) (by omega) (by omega)
    omega

theorem szK_b {t : Knd} {left : Int} (h0 : 0 ≤ left) (h1 : left ≤ 1048576) : szK t left ≤ 1048576 ∧ (szK t left < 0 → szK t left = -1) := by
  unfold szK
  have := sub1_b (left := left) (n := t.name.size) h0 h1 (by omega)
  omega

theorem F_szTerrainS (l : List Ter) (hl : l.length ≤ maxLen) (ho : ∀ t ∈ l, t.Ok) (left : Int) (h0 : 0 ≤ left) (h1 : left ≤ 1048576) : Fun E0 27 [.one (roT l), vI left] [] (.v (vI (szS szT l left))) [] [] := by
  have hl : l.length ≤ 9223372036854775807 := hl
  refine Fun_of_xc k27 rfl rfl (fun k q h => by cases h) ?_
  ((conv=>whnf);repeat((first|refine Ct ‹_› ?_|refine Cf ‹_› ?_|refine Ct rfl ?_|refine Cf rfl ?_|refine Bi rfl ?_|refine Bz rfl ?_|refine Lr ?_);conv=>whnf))
  rw [wrapI (n := left - l.length) (by omega)]
  refine Cnd_i (fun g => ?_) (fun g => ?_)
  · have g := of_decide_eq_true g
    ((conv=>whnf);repeat((first|refine Ct ‹_› ?_|refine Cf ‹_› ?_|refine Ct rfl ?_|refine Cf rfl ?_|refine Bi rfl ?_|refine Bz rfl ?_|refine Lr ?_);conv=>whnf))
    refine ⟨?_, rfl, rfl⟩
    rw [szS, if_pos g]; rfl
  have g := of_decide_eq_false g
  rw [szS, if_neg g]
  ((conv=>whnf);repeat((first|refine Ct ‹_› ?_|refine Cf ‹_› ?_|refine Ct rfl ?_|refine Cf rfl ?_|refine Bi rfl ?_|refine Bz rfl ?_|refine Lr ?_);conv=>whnf))
  refine WLoop_v ⟨[0, 1, 5], [], []⟩ (fun p : Int × Int => hdS 27 [(0, .v (.one (roT l))), (1, .v (vI p.2)), (5, .v (vI p.1))] [] [])
    (fun k p => 0 ≤ p.1 ∧ p.1 + k = l.length ∧ (0 ≤ p.2 ∧ p.2 ≤ 1048576) ∧ szL szT l (left - l.length) = szL szT (l.drop p.1.toNat) p.2) l.length (0, left - l.length) rfl ⟨by omega, by omega, ⟨by omega, by omega⟩, rfl⟩ ?_
  rintro k ⟨i, x⟩ ⟨a1, a2, ⟨a3, a4⟩, a5⟩
  simp only at a1 a2 a3 a4 a5
  ((conv=>whnf);repeat((first|refine Ct ‹_› ?_|refine Cf ‹_› ?_|refine Ct rfl ?_|refine Cf rfl ?_|refine Bi rfl ?_|refine Bz rfl ?_|refine Lr ?_);conv=>whnf))
  refine Cnd_i (fun h => ?_) (fun h => ?_)
  · have hi' : i < l.length := of_decide_eq_true h
    have hb := szT_b (t := l.getD i.toNat Ter.d) a3 a4
    rw [drop_get (d := Ter.d) a1 hi'] at a5
    ((conv=>whnf);repeat((first|refine Ct ‹_› ?_|refine Cf ‹_› ?_|refine Ct rfl ?_|refine Cf rfl ?_|refine Bi rfl ?_|refine Bz rfl ?_|refine Lr ?_);conv=>whnf))
    refine Bnd_i ⟨a1, hi'⟩ ?_
    ((conv=>whnf);repeat((first|refine Ct ‹_› ?_|refine Cf ‹_› ?_|refine Ct rfl ?_|refine Cf rfl ?_|refine Bi rfl ?_|refine Bz rfl ?_|refine Lr ?_);conv=>whnf))
    refine CallQ_some (F_szTerrain (l.getD i.toNat Ter.d) (ho _ (getD_memT a1 hi')) x a3 a4) rfl rfl ?_
    ((conv=>whnf);repeat((first|refine Ct ‹_› ?_|refine Cf ‹_› ?_|refine Ct rfl ?_|refine Cf rfl ?_|refine Bi rfl ?_|refine Bz rfl ?_|refine Lr ?_);conv=>whnf))
    refine Cnd_i (fun g2 => ?_) (fun g2 => ?_)
    · have g2 := of_decide_eq_true g2
      ((conv=>whnf);repeat((first|refine Ct ‹_› ?_|refine Cf ‹_› ?_|refine Ct rfl ?_|refine Cf rfl ?_|refine Bi rfl ?_|refine Bz rfl ?_|refine Lr ?_);conv=>whnf))
      refine ⟨?_, rfl, rfl⟩
      rw [a5, szL, if_pos g2]; rfl
    · have g2 := of_decide_eq_false g2
      ((conv=>whnf);repeat((first|refine Ct ‹_› ?_|refine Cf ‹_› ?_|refine Ct rfl ?_|refine Cf rfl ?_|refine Bi rfl ?_|refine Bz rfl ?_|refine Lr ?_);conv=>whnf))
      refine ⟨k - 1, (IntKind.i64.wrap (i + 1), szT (l.getD i.toNat Ter.d) x), rfl, ?_, ?_, ?_, ⟨?_, hb.1⟩, ?_⟩
      · omega
      · simp only; rw [wrapI (by omega)]; omega
      · simp only; rw [wrapI (by omega)]; omega
      · simp only; omega
      · simp only; rw [wrapI (by omega), a5, szL, if_neg g2]
  · have hi' := of_decide_eq_false h
    ((conv=>whnf);repeat((first|refine Ct ‹_› ?_|refine Cf ‹_› ?_|refine Ct rfl ?_|refine Cf rfl ?_|refine Bi rfl ?_|refine Bz rfl ?_|refine Lr ?_);conv=>whnf))
    refine ⟨?_, rfl, rfl⟩
    have : l.drop i.toNat = [] := by rw [List.drop_eq_nil_iff]; omega
    rw [a5, this]; rfl

theorem F_szKindS (l : List Knd) (hl : l.length ≤ maxLen) (ho : ∀ t ∈ l, t.Ok) (left : Int) (h0 : 0 ≤ left) (h1 : left ≤ 1048576) : Fun E0 28 [.one (roK l), vI left] [] (.v (vI (szS szK l left))) [] [] := by
  have hl : l.length ≤ 9223372036854775807 := hl
  refine Fun_of_xc k28 rfl rfl (fun k q h => by cases h) ?_
  ((conv=>whnf);repeat((first|refine Ct ‹_› ?_|refine Cf ‹_› ?_|refine Ct rfl ?_|refine Cf rfl ?_|refine Bi rfl ?_|refine Bz rfl ?_|refine Lr ?_);conv=>whnf))
  rw [wrapI (n := left - l.length) (by omega)]
  refine Cnd_i (fun g => ?_) (fun g => ?_)
  · have g := of_decide_eq_true g
    ((conv=>whnf);repeat((first|refine Ct ‹_› ?_|refine Cf ‹_› ?_|refine Ct rfl ?_|refine Cf rfl ?_|refine Bi rfl ?_|refine Bz rfl ?_|refine Lr ?_);conv=>whnf))
    refine ⟨?_, rfl, rfl⟩
    rw [szS, if_pos g]; rfl
  have g := of_decide_eq_false g
  rw [szS, if_neg g]
  ((conv=>whnf);repeat((first|refine Ct ‹_› ?_|refine Cf ‹_› ?_|refine Ct rfl ?_|refine Cf rfl ?_|refine Bi rfl ?_|refine Bz rfl ?_|refine Lr ?_);conv=>whnf))
  refine WLoop_v ⟨[0, 1, 5], [], []⟩ (fun p : Int × Int => hdS 27 [(0, .v (.one (roK l))), (1, .v (vI p.2)), (5, .v (vI p.1))] [] [])
    (fun k p => 0 ≤ p.1 ∧ p.1 + k = l.length ∧ (0 ≤ p.2 ∧ p.2 ≤ 1048576) ∧ szL szK l (left - l.length) = szL szK (l.drop p.1.toNat) p.2) l.length (0, left - l.length) rfl ⟨by omega, by omega, ⟨by omega, by omega⟩, rfl⟩ ?_
  rintro k ⟨i, x⟩ ⟨a1, a2, ⟨a3, a4⟩, a5⟩
  simp only at a1 a2 a3 a4 a5
  ((conv=>whnf);repeat((first|refine Ct ‹_› ?_|refine Cf ‹_› ?_|refine Ct rfl ?_|refine Cf rfl ?_|refine Bi rfl ?_|refine Bz rfl ?_|refine Lr ?_);conv=>whnf))
  refine Cnd_i (fun h => ?_) (fun h => ?_)
  · have hi' : i < l.length := of_decide_eq_true h
    have hb := szK_b (t := l.getD i.toNat Knd.d) a3 a4
    rw [drop_get (d := Knd.d) a1 hi'] at a5
    ((conv=>whnf);repeat((first|refine Ct ‹_› ?_|refine Cf ‹_› ?_|refine Ct rfl ?_|refine Cf rfl ?_|refine Bi rfl ?_|refine Bz rfl ?_|refine Lr ?_);conv=>whnf))
    refine Bnd_i ⟨a1, hi'⟩ ?_
    ((conv=>whnf);repeat((first|refine Ct ‹_› ?_|refine Cf ‹_› ?_|refine Ct rfl ?_|refine Cf rfl ?_|refine Bi rfl ?_|refine Bz rfl ?_|refine Lr ?_);conv=>whnf))
    refine CallQ_some (F_szKind (l.getD i.toNat Knd.d) (ho _ (getD_memT a1 hi')) x a3 a4) rfl rfl ?_
    ((conv=>whnf);repeat((first|refine Ct ‹_› ?_|refine Cf ‹_› ?_|refine Ct rfl ?_|refine Cf rfl ?_|refine Bi rfl ?_|refine Bz rfl ?_|refine Lr ?_);conv=>whnf))
    refine Cnd_i (fun g2 => ?_) (fun g2 => ?_)
    · have g2 := of_decide_eq_true g2
      ((conv=>whnf);repeat((first|refine Ct ‹_› ?_|refine Cf ‹_› ?_|refine Ct rfl ?_|refine Cf rfl ?_|refine Bi rfl ?_|refine Bz rfl ?_|refine Lr ?_);conv=>whnf))
      refine ⟨?_, rfl, rfl⟩
      rw [a5, szL, if_pos g2]; rfl
    · have g2 := of_decide_eq_false g2
      ((conv=>whnf);repeat((first|refine Ct ‹_› ?_|refine Cf ‹_› ?_|refine Ct rfl ?_|refine Cf rfl ?_|refine Bi rfl ?_|refine Bz rfl ?_|refine Lr ?_);conv=>whnf))
      refine ⟨k - 1, (IntKind.i64.wrap (i + 1), szK (l.getD i.toNat Knd.d) x), rfl, ?_, ?_, ?_, ⟨?_, hb.1⟩, ?_⟩
      · omega
      · simp only; rw [wrapI (by omega)]; omega
      · simp only; rw [wrapI (by omega)]; omega
      · simp only; omega
      · simp only; rw [wrapI (by omega), a5, szL, if_neg g2]
  · have hi' := of_decide_eq_false h
    ((conv=>whnf);repeat((first|refine Ct ‹_› ?_|refine Cf ‹_› ?_|refine Ct rfl ?_|refine Cf rfl ?_|refine Bi rfl ?_|refine Bz rfl ?_|refine Lr ?_);conv=>whnf))
    refine ⟨?_, rfl, rfl⟩
    have : l.drop i.toNat = [] := by rw [List.drop_eq_nil_iff]; omega
    rw [a5, this]; rfl

theorem szL_b {α : Type} {f : α → Int → Int} (hf : ∀ a x, 0 ≤ x → x ≤ 1048576 → f a x ≤ 1048576) : ∀ (l : List α) (x : Int), 0 ≤ x → x ≤ 1048576 → szL f l x ≤ 1048576
  | [], _, _, h => h
  | a :: l, x, h0, h1 => by
    unfold szL
    by_cases g : f a x < 0
    · rw [if_pos g]; omega
    · rw [if_neg g]; exact szL_b hf l _ (by omega) (hf a x h0 h1)

theorem szS_b {α : Type} {f : α → Int → Int} (hf : ∀ a x, 0 ≤ x → x ≤ 1048576 → f a x ≤ 1048576) (l : List α) {x : Int} (h0 : 0 ≤ x) (h1 : x ≤ 1048576) : szS f l x ≤ 1048576 := by
  unfold szS
  by_cases g : x - l.length < 0
  · rw [if_pos g]; omega
  · rw [if_neg g]; exact szL_b hf l _ (by omega) (by omega)

def szR (r : Rul) (left : Int) : Int := if szS szT r.ter left < 0 then -1 else if szS szK r.knd (szS szT r.ter left) < 0 then -1 else szS szK r.knd (szS szT r.ter left)

theorem F_szRules (r : Rul) (ho : r.Ok) (left : Int) (h0 : 0 ≤ left) (h1 : left ≤ 1048576) : Fun E0 9 [.agg r.cs, vI left] [] (.v (vI (szR r left))) [] [] := by
  have b1 := szS_b (f := szT) (fun t x a b => (szT_b a b).1) r.ter h0 h1
  refine Fun_of_xc k9 rfl rfl (fun k q h => by cases h) ?_
  ((conv=>whnf);repeat((first|refine Ct ‹_› ?_|refine Cf ‹_› ?_|refine Ct rfl ?_|refine Cf rfl ?_|refine Bi rfl ?_|refine Bz rfl ?_|refine Lr ?_);conv=>whnf))
  refine CallQ_some (F_szTerrainS r.ter ho.lter ho.ter left h0 h1) rfl rfl ?_
  ((conv=>whnf);repeat((first|refine Ct ‹_› ?_|refine Cf ‹_› ?_|refine Ct rfl ?_|refine Cf rfl ?_|refine Bi rfl ?_|refine Bz rfl ?_|refine Lr ?_);conv=>whnf))
  refine Cnd_i (fun g => ?_) (fun g => ?_)
  · have g := of_decide_eq_true g
    ((conv=>whnf);repeat((first|refine Ct ‹_› ?_|refine Cf ‹_› ?_|refine Ct rfl ?_|refine Cf rfl ?_|refine Bi rfl ?_|refine Bz rfl ?_|refine Lr ?_);conv=>whnf))
    refine ⟨?_, rfl, rfl⟩
    rw [szR, if_pos g]; rfl
  have g := of_decide_eq_false g
  ((conv=>whnf);repeat((first|refine Ct ‹_› ?_|refine Cf ‹_› ?_|refine Ct rfl ?_|refine Cf rfl ?_|refine Bi rfl ?_|refine Bz rfl ?_|refine Lr ?_);conv=>whnf))
  refine CallQ_some (F_szKindS r.knd ho.lknd ho.knd _ (by omega) b1) rfl rfl ?_
  ((conv=>whnf);repeat((first|refine Ct ‹_› ?_|refine Cf ‹_› ?_|refine Ct rfl ?_|refine Cf rfl ?_|refine Bi rfl ?_|refine Bz rfl ?_|refine Lr ?_);conv=>whnf))
  refine Cnd_i (fun g2 => ?_) (fun g2 => ?_)
  · have g2 := of_decide_eq_true g2
    ((conv=>whnf);repeat((first|refine Ct ‹_› ?_|refine Cf ‹_› ?_|refine Ct rfl ?_|refine Cf rfl ?_|refine Bi rfl ?_|refine Bz rfl ?_|refine Lr ?_);conv=>whnf))
    refine ⟨?_, rfl, rfl⟩
    rw [szR, if_neg g, if_pos g2]; rfl
  · have g2 := of_decide_eq_false g2
    ((conv=>whnf);repeat((first|refine Ct ‹_› ?_|refine Cf ‹_› ?_|refine Ct rfl ?_|refine Cf rfl ?_|refine Bi rfl ?_|refine Bz rfl ?_|refine Lr ?_);conv=>whnf))
    refine ⟨?_, rfl, rfl⟩
    rw [szR, if_neg g, if_neg g2]; rfl

def szM (m : Map) (left : Int) : Int := if sub1 left m.ter.length < 0 then -1 else if sub1 (sub1 left m.ter.length) m.riv.length < 0 then -1 else sub1 (sub1 (sub1 left m.ter.length) m.riv.length) m.roa.length

theorem F_szMap (m : Map) (ho : m.Ok) (left : Int) (h0 : 0 ≤ left) (h1 : left ≤ 1048576) : Fun E0 10 [.agg m.cs, vI left] [] (.v (vI (szM m left))) [] [] := by
  have b1 := sub1_b (n := m.ter.length) h0 h1 (by omega)
  refine Fun_of_xc k10 rfl rfl (fun k q h => by cases h) ?_
  ((conv=>whnf);repeat((first|refine Ct ‹_› ?_|refine Cf ‹_› ?_|refine Ct rfl ?_|refine Cf rfl ?_|refine Bi rfl ?_|refine Bz rfl ?_|refine Lr ?_);conv=>whnf))
  refine CallQ_some (F_szIntS m.ter left ho.ter.len h0 h1) rfl rfl ?_
  ((conv=>whnf);repeat((first|refine Ct ‹_› ?_|refine Cf ‹_› ?_|refine Ct rfl ?_|refine Cf rfl ?_|refine Bi rfl ?_|refine Bz rfl ?_|refine Lr ?_);conv=>whnf))
  refine Cnd_i (fun g => ?_) (fun g => ?_)
  · have g := of_decide_eq_true g
    ((conv=>whnf);repeat((first|refine Ct ‹_› ?_|refine Cf ‹_› ?_|refine Ct rfl ?_|refine Cf rfl ?_|refine Bi rfl ?_|refine Bz rfl ?_|refine Lr ?_);conv=>whnf))
    refine ⟨?_, rfl, rfl⟩
    rw [szM, if_pos g]; rfl
  have g := of_decide_eq_false g
  have b2 := sub1_b (left := sub1 left m.ter.length) (n := m.riv.length) (by omega) (by omega) (by omega)
  ((conv=>whnf);repeat((first|refine Ct ‹_› ?_|refine Cf ‹_› ?_|refine Ct rfl ?_|refine Cf rfl ?_|refine Bi rfl ?_|refine Bz rfl ?_|refine Lr ?_);conv=>whnf))
  refine CallQ_some (F_szIntS m.riv _ ho.riv.len (by omega) (by omega)) rfl rfl ?_
  ((conv=>whnf);repeat((first|refine Ct ‹_› ?_|refine Cf ‹_› ?_|refine Ct rfl ?_|refine Cf rfl ?_|refine Bi rfl ?_|refine Bz rfl ?_|refine Lr ?_);conv=>whnf))
  refine Cnd_i (fun g2 => ?_) (fun g2 => ?_)
  · have g2 := of_decide_eq_true g2
    ((conv=>whnf);repeat((first|refine Ct ‹_› ?_|refine Cf ‹_› ?_|refine Ct rfl ?_|refine Cf rfl ?_|refine Bi rfl ?_|refine Bz rfl ?_|refine Lr ?_);conv=>whnf))
    refine ⟨?_, rfl, rfl⟩
    rw [szM, if_neg g, if_pos g2]; rfl
  have g2 := of_decide_eq_false g2
  have b3 := sub1_b (left := sub1 (sub1 left m.ter.length) m.riv.length) (n := m.roa.length) (by omega) (by omega) (by omega)
  ((conv=>whnf);repeat((first|refine Ct ‹_› ?_|refine Cf ‹_› ?_|refine Ct rfl ?_|refine Cf rfl ?_|refine Bi rfl ?_|refine Bz rfl ?_|refine Lr ?_);conv=>whnf))
  refine CallQ_some (F_szIntS m.roa _ ho.roa.len (by omega) (by omega)) rfl rfl ?_
  ((conv=>whnf);repeat((first|refine Ct ‹_› ?_|refine Cf ‹_› ?_|refine Ct rfl ?_|refine Cf rfl ?_|refine Bi rfl ?_|refine Bz rfl ?_|refine Lr ?_);conv=>whnf))
  refine Cnd_i (fun g3 => ?_) (fun g3 => ?_)
  · have g3 := of_decide_eq_true g3
    ((conv=>whnf);repeat((first|refine Ct ‹_› ?_|refine Cf ‹_› ?_|refine Ct rfl ?_|refine Cf rfl ?_|refine Bi rfl ?_|refine Bz rfl ?_|refine Lr ?_);conv=>whnf))
    refine ⟨?_, rfl, rfl⟩
    have : sub1 (sub1 (sub1 left m.ter.length) m.riv.length) m.roa.length = -1 := by omega
    rw [szM, if_neg g, if_neg g2, this]; rfl
  · ((conv=>whnf);repeat((first|refine Ct ‹_› ?_|refine Cf ‹_› ?_|refine Ct rfl ?_|refine Cf rfl ?_|refine Bi rfl ?_|refine Bz rfl ?_|refine Lr ?_);conv=>whnf))
    refine ⟨?_, rfl, rfl⟩
    rw [szM, if_neg g, if_neg g2]; rfl

theorem szR_b {r : Rul} {left : Int} (h0 : 0 ≤ left) (h1 : left ≤ 1048576) : szR r left ≤ 1048576 := by
  have b1 := szS_b (f := szT) (fun t x a b => (szT_b a b).1) r.ter h0 h1
  unfold szR
  by_cases g : szS szT r.ter left < 0
  · rw [if_pos g]; omega
  · rw [if_neg g]
    have b2 := szS_b (f := szK) (fun t x a b => (szK_b a b).1) r.knd (x := szS szT r.ter left) (by omega) b1
    by_cases g2 : szS szK r.knd (szS szT r.ter left) < 0
    · rw [if_pos g2]; omega
    · rw [if_neg g2]; exact b2

def szB (b : Brd) (left : Int) : Int := if szR b.r left < 0 then -1 else if szM b.m (szR b.r left) < 0 then -1 else szM b.m (szR b.r left)

theorem F_szBoard (b : Brd) (ho : b.Ok) (left : Int) (h0 : 0 ≤ left) (h1 : left ≤ 1048576) : Fun E0 4 [.agg b.cs, vI left] [] (.v (vI (szB b left))) [] [] := by
  have b1 := szR_b (r := b.r) h0 h1
  refine Fun_of_xc k4 rfl rfl (fun k q h => by cases h) ?_
  ((conv=>whnf);repeat((first|refine Ct ‹_› ?_|refine Cf ‹_› ?_|refine Ct rfl ?_|refine Cf rfl ?_|refine Bi rfl ?_|refine Bz rfl ?_|refine Lr ?_);conv=>whnf))
  refine CallQ_some (F_szRules b.r ho.r left h0 h1) rfl rfl ?_
  ((conv=>whnf);repeat((first|refine Ct ‹_› ?_|refine Cf ‹_› ?_|refine Ct rfl ?_|refine Cf rfl ?_|refine Bi rfl ?_|refine Bz rfl ?_|refine Lr ?_);conv=>whnf))
  refine Cnd_i (fun g => ?_) (fun g => ?_)
  · have g := of_decide_eq_true g
    ((conv=>whnf);repeat((first|refine Ct ‹_› ?_|refine Cf ‹_› ?_|refine Ct rfl ?_|refine Cf rfl ?_|refine Bi rfl ?_|refine Bz rfl ?_|refine Lr ?_);conv=>whnf))
    refine ⟨?_, rfl, rfl⟩
    rw [szB, if_pos g]; rfl
  have g := of_decide_eq_false g
  ((conv=>whnf);repeat((first|refine Ct ‹_› ?_|refine Cf ‹_› ?_|refine Ct rfl ?_|refine Cf rfl ?_|refine Bi rfl ?_|refine Bz rfl ?_|refine Lr ?_);conv=>whnf))
  refine CallQ_some (F_szMap b.m ho.m _ (by omega) b1) rfl rfl ?_
  ((conv=>whnf);repeat((first|refine Ct ‹_› ?_|refine Cf ‹_› ?_|refine Ct rfl ?_|refine Cf rfl ?_|refine Bi rfl ?_|refine Bz rfl ?_|refine Lr ?_);conv=>whnf))
  refine Cnd_i (fun g2 => ?_) (fun g2 => ?_)
  · have g2 := of_decide_eq_true g2
    ((conv=>whnf);repeat((first|refine Ct ‹_› ?_|refine Cf ‹_› ?_|refine Ct rfl ?_|refine Cf rfl ?_|refine Bi rfl ?_|refine Bz rfl ?_|refine Lr ?_);conv=>whnf))
    refine ⟨?_, rfl, rfl⟩
    rw [szB, if_neg g, if_pos g2]; rfl
  · have g2 := of_decide_eq_false g2
    ((conv=>whnf);repeat((first|refine Ct ‹_› ?_|refine Cf ‹_› ?_|refine Ct rfl ?_|refine Cf rfl ?_|refine Bi rfl ?_|refine Bz rfl ?_|refine Lr ?_);conv=>whnf))
    refine ⟨?_, rfl, rfl⟩
    rw [szB, if_neg g, if_neg g2]; rfl

/-- a row of numbers of one's own -/
abbrev rwI (l : List Int) : Row := ⟨false, 1, l.length, fun i _ => cI (l.getD i 0)⟩

/-- a row that is being filled -/
abbrev rwIu (l : List Int) (k : Int) : Row := ⟨false, 1, l.length, fun i _ => cI (if (i : Int) < k then l.getD i 0 else 0)⟩

theorem rwIu_full (l : List Int) : rwIu l (l.length : Int) = rwI l := by
  unfold rwIu rwI
  congr 1
  funext i j
  by_cases e : (i : Int) < l.length
  · rw [if_pos e]
  · rw [if_neg e]
    have : l.getD i 0 = 0 := by
      rw [List.getD_eq_getElem?_getD, List.getElem?_eq_none (by omega)]; rfl
    rw [this]

theorem noRo1 {k0 : Nat} {r : Row} (h : NoRo r) : ∀ k q, lk ([(k0, r)] ++ []) k = some q → NoRo q := by
  intro k q hk
  have hk : lk [(k0, r)] k = some q := by simpa using hk
  rw [lk_cons] at hk
  split at hk
  · cases hk; exact h
  · cases hk

theorem F_toIntS (l : List Int) (hl : l.length ≤ 1048576) : Fun E0 43 [.one (roI l)] [] (.v (.one (.own 0 l.length))) [(0, rwI l)] [] := by
  refine Fun_of_xc k43 rfl rfl (noRo1 (fun i j _ _ => rfl)) ?_
  ((conv=>whnf);repeat((first|refine Ct ‹_› ?_|refine Cf ‹_› ?_|refine Ct rfl ?_|refine Cf rfl ?_|refine Bi rfl ?_|refine Bz rfl ?_|refine Lr ?_);conv=>whnf))
  refine Rw_self ?_
  ((conv=>whnf);repeat((first|refine Ct ‹_› ?_|refine Cf ‹_› ?_|refine Ct rfl ?_|refine Cf rfl ?_|refine Bi rfl ?_|refine Bz rfl ?_|refine Lr ?_);conv=>whnf))
  refine Bnd_i (by omega) ?_
  ((conv=>whnf);repeat((first|refine Ct ‹_› ?_|refine Cf ‹_› ?_|refine Ct rfl ?_|refine Cf rfl ?_|refine Bi rfl ?_|refine Bz rfl ?_|refine Lr ?_);conv=>whnf))
  refine Rw_i (rwIu l 0) ⟨rfl, rfl, by simp [zeroRow], fun i j hi hj => ?_⟩ ?_
  · have hj : j < 1 := hj
    obtain rfl : j = 0 := by omega
    show cI 0 = cI (if (i : Int) < 0 then l.getD i 0 else 0)
    rw [if_neg (by omega)]
  ((conv=>whnf);repeat((first|refine Ct ‹_› ?_|refine Cf ‹_› ?_|refine Ct rfl ?_|refine Cf rfl ?_|refine Bi rfl ?_|refine Bz rfl ?_|refine Lr ?_);conv=>whnf))
  refine WLoop_v ⟨[0, 3, 4], [], []⟩ (fun i : Int => hdS 22 [(0, .v (.one (roI l))), (3, .v (.one (.own (vkey 3) l.length))), (4, .v (vI i))] [] [(vkey 3, rwIu l i)])
    (fun k i => 0 ≤ i ∧ i + k = l.length) l.length 0 rfl ⟨by omega, by omega⟩ ?_
  rintro k i ⟨h1, h2⟩
  ((conv=>whnf);repeat((first|refine Ct ‹_› ?_|refine Cf ‹_› ?_|refine Ct rfl ?_|refine Cf rfl ?_|refine Bi rfl ?_|refine Bz rfl ?_|refine Lr ?_);conv=>whnf))
  refine Cnd_i (fun h => ?_) (fun h => ?_)
  · have hi' : i < l.length := of_decide_eq_true h
    ((conv=>whnf);repeat((first|refine Ct ‹_› ?_|refine Cf ‹_› ?_|refine Ct rfl ?_|refine Cf rfl ?_|refine Bi rfl ?_|refine Bz rfl ?_|refine Lr ?_);conv=>whnf))
    refine Bnd_i ⟨h1, hi'⟩ ?_
    ((conv=>whnf);repeat((first|refine Ct ‹_› ?_|refine Cf ‹_› ?_|refine Ct rfl ?_|refine Cf rfl ?_|refine Bi rfl ?_|refine Bz rfl ?_|refine Lr ?_);conv=>whnf))
    refine Bnd_i ⟨h1, hi'⟩ ?_
    ((conv=>whnf);repeat((first|refine Ct ‹_› ?_|refine Cf ‹_› ?_|refine Ct rfl ?_|refine Cf rfl ?_|refine Bi rfl ?_|refine Bz rfl ?_|refine Lr ?_);conv=>whnf))
    refine Rw_i (rwIu l (i + 1)) ⟨rfl, rfl, rfl, fun i' j hi hj => ?_⟩ ?_
    · have hj : j < 1 := hj
      obtain rfl : j = 0 := by omega
      show wrG (rwIu l i).get i.toNat 0 [cI (l.getD i.toNat 0)] i' 0 = cI (if (i' : Int) < i + 1 then l.getD i' 0 else 0)
      by_cases e : i' = i.toNat
      · subst e
        rw [wrG_in (by simp), if_pos (by omega)]; rfl
      · rw [wrG_out (fun hh => e hh.1)]
        show cI (if (i' : Int) < i then l.getD i' 0 else 0) = _
        by_cases e2 : (i' : Int) < i
        · rw [if_pos e2, if_pos (by omega)]
        · rw [if_neg e2, if_neg (by omega)]
    ((conv=>whnf);repeat((first|refine Ct ‹_› ?_|refine Cf ‹_› ?_|refine Ct rfl ?_|refine Cf rfl ?_|refine Bi rfl ?_|refine Bz rfl ?_|refine Lr ?_);conv=>whnf))
    refine ⟨k - 1, i + 1, ?_, ?_, ?_, ?_⟩
    · rw [wrapI (by omega)]; rfl
    · omega
    · omega
    · omega
  · have hi' := of_decide_eq_false h
    ((conv=>whnf);repeat((first|refine Ct ‹_› ?_|refine Cf ‹_› ?_|refine Ct rfl ?_|refine Cf rfl ?_|refine Bi rfl ?_|refine Bz rfl ?_|refine Lr ?_);conv=>whnf))
    obtain rfl : i = (l.length : Int) := by omega
    rw [rwIu_full]
    exact ⟨rfl, rfl, rfl⟩

theorem nrN : ∀ k q, lk ([] : Ob) k = some q → NoRo q := fun _ _ h => by cases h

theorem nrC {k0 : Nat} {r : Row} {l : Ob} (h : NoRo r) (hl : ∀ k q, lk l k = some q → NoRo q) : ∀ k q, lk ((k0, r) :: l) k = some q → NoRo q := by
  intro k q hk
  rw [lk_cons] at hk
  split at hk
  · cases hk; exact h
  · exact hl k q hk

theorem rwI_no (l : List Int) : NoRo (rwI l) := fun _ _ _ _ => rfl

theorem F_toTerrain (t : Ter) (hc : t.cost.length ≤ 1048576) : Fun E0 62 [.agg t.cs] [] (.v (.agg [.str t.name, .own 1 t.cost.length, cI t.shift, cI t.height, .bool t.blocks])) [(1, rwI t.cost)] [] := by
  refine Fun_of_xc k62 rfl rfl (nrC (rwI_no _) nrN) ?_
  ((conv=>whnf);repeat((first|refine Ct ‹_› ?_|refine Cf ‹_› ?_|refine Ct rfl ?_|refine Cf rfl ?_|refine Bi rfl ?_|refine Bz rfl ?_|refine Lr ?_);conv=>whnf))
  refine CallQ_some (F_toIntS t.cost hc) rfl rfl ?_
  ((conv=>whnf);repeat((first|refine Ct ‹_› ?_|refine Cf ‹_› ?_|refine Ct rfl ?_|refine Cf rfl ?_|refine Bi rfl ?_|refine Bz rfl ?_|refine Lr ?_);conv=>whnf))
  exact ⟨rfl, rfl, rfl⟩

/-- a terrain in a row of one's own -/
abbrev Ter.cw (t : Ter) : List Cell := [.str t.name, .fr 1 t.cost.length fun i _ => cI (t.cost.getD i 0), cI t.shift, cI t.height, .bool t.blocks]

abbrev Ter.cz : List Cell := [.str ⟨#[]⟩, .ro 1 0 nog, cI 0, cI 0, .bool false]

abbrev rwT (l : List Ter) : Row := ⟨true, 5, l.length, fun i j => nth (l.getD i Ter.d).cw j⟩

abbrev rwTu (l : List Ter) (k : Int) : Row := ⟨true, 5, l.length, fun i j => if (i : Int) < k ∨ l.length ≤ i then nth (l.getD i Ter.d).cw j else nth Ter.cz j⟩

theorem rwT_no (l : List Ter) : NoRo (rwT l) := by
  intro i j _ hj
  have hj : j < 5 := hj
  match j, hj with
  | 0, _ => rfl
  | 1, _ => exact fun _ _ _ _ => rfl
  | 2, _ => rfl
  | 3, _ => rfl
  | 4, _ => rfl

theorem F_toTerrainS (l : List Ter) (hl : l.length ≤ 1048576) (hc : ∀ t ∈ l, t.cost.length ≤ 1048576) : Fun E0 41 [.one (roT l)] [] (.v (.one (.own 0 l.length))) [(0, rwT l)] [] := by
  refine Fun_of_xc k41 rfl rfl (nrC (rwT_no _) nrN) ?_
  ((conv=>whnf);repeat((first|refine Ct ‹_› ?_|refine Cf ‹_› ?_|refine Ct rfl ?_|refine Cf rfl ?_|refine Bi rfl ?_|refine Bz rfl ?_|refine Lr ?_);conv=>whnf))
  refine Rw_self ?_
  ((conv=>whnf);repeat((first|refine Ct ‹_› ?_|refine Cf ‹_› ?_|refine Ct rfl ?_|refine Cf rfl ?_|refine Bi rfl ?_|refine Bz rfl ?_|refine Lr ?_);conv=>whnf))
  refine Bnd_i (by omega) ?_
  ((conv=>whnf);repeat((first|refine Ct ‹_› ?_|refine Cf ‹_› ?_|refine Ct rfl ?_|refine Cf rfl ?_|refine Bi rfl ?_|refine Bz rfl ?_|refine Lr ?_);conv=>whnf))
  refine Rw_i (rwTu l 0) ⟨rfl, rfl, by simp [zeroRow], fun i j hi hj => ?_⟩ ?_
  · have hi : i < l.length := by simpa [zeroRow] using hi
    show nth Ter.cz j = if (i : Int) < 0 ∨ l.length ≤ i then nth (l.getD i Ter.d).cw j else nth Ter.cz j
    rw [if_neg (by omega)]
  ((conv=>whnf);repeat((first|refine Ct ‹_› ?_|refine Cf ‹_› ?_|refine Ct rfl ?_|refine Cf rfl ?_|refine Bi rfl ?_|refine Bz rfl ?_|refine Lr ?_);conv=>whnf))
  refine WLoop_v ⟨[0, 3, 4], [], []⟩ (fun i : Int => hdS 23 [(0, .v (.one (roT l))), (3, .v (.one (.own (vkey 3) l.length))), (4, .v (vI i))] [] [(vkey 3, rwTu l i)])
    (fun k i => 0 ≤ i ∧ i + k = l.length) l.length 0 rfl ⟨by omega, by omega⟩ ?_
  rintro k i ⟨h1, h2⟩
  ((conv=>whnf);repeat((first|refine Ct ‹_› ?_|refine Cf ‹_› ?_|refine Ct rfl ?_|refine Cf rfl ?_|refine Bi rfl ?_|refine Bz rfl ?_|refine Lr ?_);conv=>whnf))
  refine Cnd_i (fun h => ?_) (fun h => ?_)
  · have hi' : i < l.length := of_decide_eq_true h
    ((conv=>whnf);repeat((first|refine Ct ‹_› ?_|refine Cf ‹_› ?_|refine Ct rfl ?_|refine Cf rfl ?_|refine Bi rfl ?_|refine Bz rfl ?_|refine Lr ?_);conv=>whnf))
    refine Bnd_i ⟨h1, hi'⟩ ?_
    ((conv=>whnf);repeat((first|refine Ct ‹_› ?_|refine Cf ‹_› ?_|refine Ct rfl ?_|refine Cf rfl ?_|refine Bi rfl ?_|refine Bz rfl ?_|refine Lr ?_);conv=>whnf))
    refine CallQ_some (F_toTerrain (l.getD i.toNat Ter.d) (hc _ (getD_memT h1 hi'))) rfl rfl ?_
    ((conv=>whnf);repeat((first|refine Ct ‹_› ?_|refine Cf ‹_› ?_|refine Ct rfl ?_|refine Cf rfl ?_|refine Bi rfl ?_|refine Bz rfl ?_|refine Lr ?_);conv=>whnf))
    refine Bnd_i ⟨h1, hi'⟩ ?_
    ((conv=>whnf);repeat((first|refine Ct ‹_› ?_|refine Cf ‹_› ?_|refine Ct rfl ?_|refine Cf rfl ?_|refine Bi rfl ?_|refine Bz rfl ?_|refine Lr ?_);conv=>whnf))
    refine Rw_i (rwTu l (i + 1)) ⟨rfl, rfl, rfl, fun i' j hi hj => ?_⟩ ?_
    · have hj : j < 5 := hj
      have hi : i' < l.length := hi
      show wrG (rwTu l i).get i.toNat 0 (l.getD i.toNat Ter.d).cw i' j = if (i' : Int) < i + 1 ∨ l.length ≤ i' then nth (l.getD i' Ter.d).cw j else nth Ter.cz j
      by_cases e : i' = i.toNat
      · subst e
        rw [wrG_in (by simp; omega), if_pos (by omega)]; rfl
      · rw [wrG_out (fun hh => e hh.1)]
        show (if (i' : Int) < i ∨ l.length ≤ i' then nth (l.getD i' Ter.d).cw j else nth Ter.cz j) = _
        by_cases e2 : (i' : Int) < i
        · rw [if_pos (.inl e2), if_pos (.inl (by omega))]
        · rw [if_neg (by omega), if_neg (by omega)]
    ((conv=>whnf);repeat((first|refine Ct ‹_› ?_|refine Cf ‹_› ?_|refine Ct rfl ?_|refine Cf rfl ?_|refine Bi rfl ?_|refine Bz rfl ?_|refine Lr ?_);conv=>whnf))
    refine ⟨k - 1, i + 1, ?_, ?_, ?_, ?_⟩
    · rw [wrapI (by omega)]; rfl
    · omega
    · omega
    · omega
  · have hi' := of_decide_eq_false h
    ((conv=>whnf);repeat((first|refine Ct ‹_› ?_|refine Cf ‹_› ?_|refine Ct rfl ?_|refine Cf rfl ?_|refine Bi rfl ?_|refine Bz rfl ?_|refine Lr ?_);conv=>whnf))
    have e : rwTu l i = rwT l := by
      unfold rwTu rwT
      congr 1
      funext i' j
      rw [if_pos (by omega)]
    rw [e]
    exact ⟨rfl, rfl, rfl⟩

theorem F_toKind (t : Knd) : Fun E0 63 [.agg t.cs] [] (.v (.agg t.cs)) [] [] := by
  refine Fun_of_xc k63 rfl rfl (fun k q h => by cases h) ?_
  ((conv=>whnf);repeat((first|refine Ct ‹_› ?_|refine Cf ‹_› ?_|refine Ct rfl ?_|refine Cf rfl ?_|refine Bi rfl ?_|refine Bz rfl ?_|refine Lr ?_);conv=>whnf))
  exact ⟨rfl, rfl, rfl⟩

abbrev Knd.cz : List Cell := [.str ⟨#[]⟩, cI 0, cI 0, cI 0, .bool false, cI 0]

abbrev rwK (l : List Knd) : Row := ⟨false, 6, l.length, fun i j => nth (l.getD i Knd.d).cs j⟩

abbrev rwKu (l : List Knd) (k : Int) : Row := ⟨false, 6, l.length, fun i j => if (i : Int) < k ∨ l.length ≤ i then nth (l.getD i Knd.d).cs j else nth Knd.cz j⟩

theorem rwK_no (l : List Knd) : NoRo (rwK l) := by
  intro i j _ hj
  have hj : j < 6 := hj
  match j, hj with
  | 0, _ => rfl
  | 1, _ => rfl
  | 2, _ => rfl
  | 3, _ => rfl
  | 4, _ => rfl
  | 5, _ => rfl

theorem F_toKindS (l : List Knd) (hl : l.length ≤ 1048576) : Fun E0 42 [.one (roK l)] [] (.v (.one (.own 0 l.length))) [(0, rwK l)] [] := by
  refine Fun_of_xc k42 rfl rfl (nrC (rwK_no _) nrN) ?_
  ((conv=>whnf);repeat((first|refine Ct ‹_› ?_|refine Cf ‹_› ?_|refine Ct rfl ?_|refine Cf rfl ?_|refine Bi rfl ?_|refine Bz rfl ?_|refine Lr ?_);conv=>whnf))
  refine Rw_self ?_
  ((conv=>whnf);repeat((first|refine Ct ‹_› ?_|refine Cf ‹_› ?_|refine Ct rfl ?_|refine Cf rfl ?_|refine Bi rfl ?_|refine Bz rfl ?_|refine Lr ?_);conv=>whnf))
  refine Bnd_i (by omega) ?_
  ((conv=>whnf);repeat((first|refine Ct ‹_› ?_|refine Cf ‹_› ?_|refine Ct rfl ?_|refine Cf rfl ?_|refine Bi rfl ?_|refine Bz rfl ?_|refine Lr ?_);conv=>whnf))
  refine Rw_i (rwKu l 0) ⟨rfl, rfl, by simp [zeroRow], fun i j hi hj => ?_⟩ ?_
  · have hi : i < l.length := by simpa [zeroRow] using hi
    show nth Knd.cz j = if (i : Int) < 0 ∨ l.length ≤ i then nth (l.getD i Knd.d).cs j else nth Knd.cz j
    rw [if_neg (by omega)]
  ((conv=>whnf);repeat((first|refine Ct ‹_› ?_|refine Cf ‹_› ?_|refine Ct rfl ?_|refine Cf rfl ?_|refine Bi rfl ?_|refine Bz rfl ?_|refine Lr ?_);conv=>whnf))
  refine WLoop_v ⟨[0, 3, 4], [], []⟩ (fun i : Int => hdS 23 [(0, .v (.one (roK l))), (3, .v (.one (.own (vkey 3) l.length))), (4, .v (vI i))] [] [(vkey 3, rwKu l i)])
    (fun k i => 0 ≤ i ∧ i + k = l.length) l.length 0 rfl ⟨by omega, by omega⟩ ?_
  rintro k i ⟨h1, h2⟩
  ((conv=>whnf);repeat((first|refine Ct ‹_› ?_|refine Cf ‹_› ?_|refine Ct rfl ?_|refine Cf rfl ?_|refine Bi rfl ?_|refine Bz rfl ?_|refine Lr ?_);conv=>whnf))
  refine Cnd_i (fun h => ?_) (fun h => ?_)
  · have hi' : i < l.length := of_decide_eq_true h
    ((conv=>whnf);repeat((first|refine Ct ‹_› ?_|refine Cf ‹_› ?_|refine Ct rfl ?_|refine Cf rfl ?_|refine Bi rfl ?_|refine Bz rfl ?_|refine Lr ?_);conv=>whnf))
    refine Bnd_i ⟨h1, hi'⟩ ?_
    ((conv=>whnf);repeat((first|refine Ct ‹_› ?_|refine Cf ‹_› ?_|refine Ct rfl ?_|refine Cf rfl ?_|refine Bi rfl ?_|refine Bz rfl ?_|refine Lr ?_);conv=>whnf))
    refine CallQ_some (F_toKind (l.getD i.toNat Knd.d)) rfl rfl ?_
    ((conv=>whnf);repeat((first|refine Ct ‹_› ?_|refine Cf ‹_› ?_|refine Ct rfl ?_|refine Cf rfl ?_|refine Bi rfl ?_|refine Bz rfl ?_|refine Lr ?_);conv=>whnf))
    refine Bnd_i ⟨h1, hi'⟩ ?_
    ((conv=>whnf);repeat((first|refine Ct ‹_› ?_|refine Cf ‹_› ?_|refine Ct rfl ?_|refine Cf rfl ?_|refine Bi rfl ?_|refine Bz rfl ?_|refine Lr ?_);conv=>whnf))
    refine Rw_i (rwKu l (i + 1)) ⟨rfl, rfl, rfl, fun i' j hi hj => ?_⟩ ?_
    · have hj : j < 6 := hj
      have hi : i' < l.length := hi
      show wrG (rwKu l i).get i.toNat 0 (l.getD i.toNat Knd.d).cs i' j = if (i' : Int) < i + 1 ∨ l.length ≤ i' then nth (l.getD i' Knd.d).cs j else nth Knd.cz j
      by_cases e : i' = i.toNat
      · subst e
        rw [wrG_in (by simp; omega), if_pos (by omega)]; rfl
      · rw [wrG_out (fun hh => e hh.1)]
        show (if (i' : Int) < i ∨ l.length ≤ i' then nth (l.getD i' Knd.d).cs j else nth Knd.cz j) = _
        by_cases e2 : (i' : Int) < i
        · rw [if_pos (.inl e2), if_pos (.inl (by omega))]
        · rw [if_neg (by omega), if_neg (by omega)]
    ((conv=>whnf);repeat((first|refine Ct ‹_› ?_|refine Cf ‹_› ?_|refine Ct rfl ?_|refine Cf rfl ?_|refine Bi rfl ?_|refine Bz rfl ?_|refine Lr ?_);conv=>whnf))
    refine ⟨k - 1, i + 1, ?_, ?_, ?_, ?_⟩
    · rw [wrapI (by omega)]; rfl
    · omega
    · omega
    · omega
  · have hi' := of_decide_eq_false h
    ((conv=>whnf);repeat((first|refine Ct ‹_› ?_|refine Cf ‹_› ?_|refine Ct rfl ?_|refine Cf rfl ?_|refine Bi rfl ?_|refine Bz rfl ?_|refine Lr ?_);conv=>whnf))
    have e : rwKu l i = rwK l := by
      unfold rwKu rwK
      congr 1
      funext i' j
      rw [if_pos (by omega)]
    rw [e]
    exact ⟨rfl, rfl, rfl⟩

/-- what a copy asks: no list of more than 2^20 elements -/
structure Rul.Sm (r : Rul) : Prop where
  ter : r.ter.length ≤ 1048576
  cost : ∀ t ∈ r.ter, t.cost.length ≤ 1048576
  knd : r.knd.length ≤ 1048576

structure Map.Sm (m : Map) : Prop where
  ter : m.ter.length ≤ 1048576
  riv : m.riv.length ≤ 1048576
  roa : m.roa.length ≤ 1048576

structure Brd.Sm (b : Brd) : Prop where
  r : b.r.Sm
  m : b.m.Sm

theorem F_toRules (r : Rul) (h : r.Sm) : Fun E0 16 [.agg r.cs] [] (.v (.agg [.own 0 r.ter.length, .own 1 r.knd.length, cI r.stack, cI r.river, cI r.road, cI r.supply, cI r.turns])) [(0, rwT r.ter), (1, rwK r.knd)] [] := by
  refine Fun_of_xc k16 rfl rfl (nrC (rwT_no _) (nrC (rwK_no _) nrN)) ?_
  ((conv=>whnf);repeat((first|refine Ct ‹_› ?_|refine Cf ‹_› ?_|refine Ct rfl ?_|refine Cf rfl ?_|refine Bi rfl ?_|refine Bz rfl ?_|refine Lr ?_);conv=>whnf))
  refine CallQ_some (F_toTerrainS r.ter h.ter h.cost) rfl rfl ?_
  ((conv=>whnf);repeat((first|refine Ct ‹_› ?_|refine Cf ‹_› ?_|refine Ct rfl ?_|refine Cf rfl ?_|refine Bi rfl ?_|refine Bz rfl ?_|refine Lr ?_);conv=>whnf))
  refine CallQ_some (F_toKindS r.knd h.knd) rfl rfl ?_
  ((conv=>whnf);repeat((first|refine Ct ‹_› ?_|refine Cf ‹_› ?_|refine Ct rfl ?_|refine Cf rfl ?_|refine Bi rfl ?_|refine Bz rfl ?_|refine Lr ?_);conv=>whnf))
  exact ⟨rfl, rfl, rfl⟩

theorem F_toMap (m : Map) (h : m.Sm) : Fun E0 17 [.agg m.cs] [] (.v (.agg [cI m.w, cI m.h, .own 2 m.ter.length, .own 3 m.riv.length, .own 4 m.roa.length])) [(2, rwI m.ter), (3, rwI m.riv), (4, rwI m.roa)] [] := by
  refine Fun_of_xc k17 rfl rfl (nrC (rwI_no _) (nrC (rwI_no _) (nrC (rwI_no _) nrN))) ?_
  ((conv=>whnf);repeat((first|refine Ct ‹_› ?_|refine Cf ‹_› ?_|refine Ct rfl ?_|refine Cf rfl ?_|refine Bi rfl ?_|refine Bz rfl ?_|refine Lr ?_);conv=>whnf))
  refine CallQ_some (F_toIntS m.ter h.ter) rfl rfl ?_
  ((conv=>whnf);repeat((first|refine Ct ‹_› ?_|refine Cf ‹_› ?_|refine Ct rfl ?_|refine Cf rfl ?_|refine Bi rfl ?_|refine Bz rfl ?_|refine Lr ?_);conv=>whnf))
  refine CallQ_some (F_toIntS m.riv h.riv) rfl rfl ?_
  ((conv=>whnf);repeat((first|refine Ct ‹_› ?_|refine Cf ‹_› ?_|refine Ct rfl ?_|refine Cf rfl ?_|refine Bi rfl ?_|refine Bz rfl ?_|refine Lr ?_);conv=>whnf))
  refine CallQ_some (F_toIntS m.roa h.roa) rfl rfl ?_
  ((conv=>whnf);repeat((first|refine Ct ‹_› ?_|refine Cf ‹_› ?_|refine Ct rfl ?_|refine Cf rfl ?_|refine Bi rfl ?_|refine Bz rfl ?_|refine Lr ?_);conv=>whnf))
  exact ⟨rfl, rfl, rfl⟩

abbrev Brd.cw (b : Brd) : List Cell := [.own 0 b.r.ter.length, .own 1 b.r.knd.length, cI b.r.stack, cI b.r.river, cI b.r.road, cI b.r.supply, cI b.r.turns, cI b.m.w, cI b.m.h, .own 9 b.m.ter.length, .own 10 b.m.riv.length, .own 11 b.m.roa.length]

abbrev Brd.rows (b : Brd) : Ob := [(0, rwT b.r.ter), (1, rwK b.r.knd), (9, rwI b.m.ter), (10, rwI b.m.riv), (11, rwI b.m.roa)]

theorem F_toBoard (b : Brd) (h : b.Sm) : Fun E0 6 [.agg b.cs] [] (.v (.agg b.cw)) b.rows [] := by
  refine Fun_of_xc k6 rfl rfl (nrC (rwT_no _) (nrC (rwK_no _) (nrC (rwI_no _) (nrC (rwI_no _) (nrC (rwI_no _) nrN))))) ?_
  ((conv=>whnf);repeat((first|refine Ct ‹_› ?_|refine Cf ‹_› ?_|refine Ct rfl ?_|refine Cf rfl ?_|refine Bi rfl ?_|refine Bz rfl ?_|refine Lr ?_);conv=>whnf))
  refine CallQ_some (F_toRules b.r h.r) rfl rfl ?_
  ((conv=>whnf);repeat((first|refine Ct ‹_› ?_|refine Cf ‹_› ?_|refine Ct rfl ?_|refine Cf rfl ?_|refine Bi rfl ?_|refine Bz rfl ?_|refine Lr ?_);conv=>whnf))
  refine CallQ_some (F_toMap b.m h.m) rfl rfl ?_
  ((conv=>whnf);repeat((first|refine Ct ‹_› ?_|refine Cf ‹_› ?_|refine Ct rfl ?_|refine Cf rfl ?_|refine Bi rfl ?_|refine Bz rfl ?_|refine Lr ?_);conv=>whnf))
  exact ⟨rfl, rfl, rfl⟩

theorem F_eqIntS (l : List Int) (hl : l.length ≤ 1048576) : Fun E0 56 [.one (roI l), .one (roI l)] [] (.v (vB true)) [] [] := by
  refine Fun_of_xc k56 rfl rfl (fun k q h => by cases h) ?_
  ((conv=>whnf);repeat((first|refine Ct ‹_› ?_|refine Cf ‹_› ?_|refine Ct rfl ?_|refine Cf rfl ?_|refine Bi rfl ?_|refine Bz rfl ?_|refine Lr ?_);conv=>whnf))
  refine Cnd_f (by simp) ?_
  ((conv=>whnf);repeat((first|refine Ct ‹_› ?_|refine Cf ‹_› ?_|refine Ct rfl ?_|refine Cf rfl ?_|refine Bi rfl ?_|refine Bz rfl ?_|refine Lr ?_);conv=>whnf))
  refine WLoop_v ⟨[0, 1, 5], [], []⟩ (fun i : Int => hdS 26 [(0, .v (.one (roI l))), (1, .v (.one (roI l))), (5, .v (vI i))] [] [])
    (fun k i => 0 ≤ i ∧ i + k = l.length) l.length 0 rfl ⟨by omega, by omega⟩ ?_
  rintro k i ⟨h1, h2⟩
  ((conv=>whnf);repeat((first|refine Ct ‹_› ?_|refine Cf ‹_› ?_|refine Ct rfl ?_|refine Cf rfl ?_|refine Bi rfl ?_|refine Bz rfl ?_|refine Lr ?_);conv=>whnf))
  refine Cnd_i (fun h => ?_) (fun h => ?_)
  · have hi' : i < l.length := of_decide_eq_true h
    ((conv=>whnf);repeat((first|refine Ct ‹_› ?_|refine Cf ‹_› ?_|refine Ct rfl ?_|refine Cf rfl ?_|refine Bi rfl ?_|refine Bz rfl ?_|refine Lr ?_);conv=>whnf))
    refine Bnd_i ⟨h1, hi'⟩ ?_
    ((conv=>whnf);repeat((first|refine Ct ‹_› ?_|refine Cf ‹_› ?_|refine Ct rfl ?_|refine Cf rfl ?_|refine Bi rfl ?_|refine Bz rfl ?_|refine Lr ?_);conv=>whnf))
    refine Bnd_i ⟨h1, hi'⟩ ?_
    ((conv=>whnf);repeat((first|refine Ct ‹_› ?_|refine Cf ‹_› ?_|refine Ct rfl ?_|refine Cf rfl ?_|refine Bi rfl ?_|refine Bz rfl ?_|refine Lr ?_);conv=>whnf))
    refine Cnd_f (by simp) ?_
    ((conv=>whnf);repeat((first|refine Ct ‹_› ?_|refine Cf ‹_› ?_|refine Ct rfl ?_|refine Cf rfl ?_|refine Bi rfl ?_|refine Bz rfl ?_|refine Lr ?_);conv=>whnf))
    refine ⟨k - 1, i + 1, ?_, ?_, ?_, ?_⟩
    · rw [wrapI (by omega)]; rfl
    · omega
    · omega
    · omega
  · ((conv=>whnf);repeat((first|refine Ct ‹_› ?_|refine Cf ‹_› ?_|refine Ct rfl ?_|refine Cf rfl ?_|refine Bi rfl ?_|refine Bz rfl ?_|refine Lr ?_);conv=>whnf))
    exact ⟨rfl, rfl, rfl⟩

theorem F_eqTerrain (t : Ter) (hc : t.cost.length ≤ 1048576) : Fun E0 71 [.agg t.cs, .agg t.cs] [] (.v (vB true)) [] [] := by
  refine Fun_of_xc k71 rfl rfl (fun k q h => by cases h) ?_
  ((conv=>whnf);repeat((first|refine Ct ‹_› ?_|refine Cf ‹_› ?_|refine Ct rfl ?_|refine Cf rfl ?_|refine Bi rfl ?_|refine Bz rfl ?_|refine Lr ?_);conv=>whnf))
  refine Cnd_f (by simp) ?_
  ((conv=>whnf);repeat((first|refine Ct ‹_› ?_|refine Cf ‹_› ?_|refine Ct rfl ?_|refine Cf rfl ?_|refine Bi rfl ?_|refine Bz rfl ?_|refine Lr ?_);conv=>whnf))
  refine CallQ_some (F_eqIntS t.cost hc) rfl rfl ?_
  ((conv=>whnf);repeat((first|refine Ct ‹_› ?_|refine Cf ‹_› ?_|refine Ct rfl ?_|refine Cf rfl ?_|refine Bi rfl ?_|refine Bz rfl ?_|refine Lr ?_);conv=>whnf))
  refine Cnd_f (by simp) ?_
  ((conv=>whnf);repeat((first|refine Ct ‹_› ?_|refine Cf ‹_› ?_|refine Ct rfl ?_|refine Cf rfl ?_|refine Bi rfl ?_|refine Bz rfl ?_|refine Lr ?_);conv=>whnf))
  refine Cnd_f (by simp) ?_
  ((conv=>whnf);repeat((first|refine Ct ‹_› ?_|refine Cf ‹_› ?_|refine Ct rfl ?_|refine Cf rfl ?_|refine Bi rfl ?_|refine Bz rfl ?_|refine Lr ?_);conv=>whnf))
  refine Cnd_f (by simp) ?_
  ((conv=>whnf);repeat((first|refine Ct ‹_› ?_|refine Cf ‹_› ?_|refine Ct rfl ?_|refine Cf rfl ?_|refine Bi rfl ?_|refine Bz rfl ?_|refine Lr ?_);conv=>whnf))
  exact ⟨rfl, rfl, rfl⟩

theorem F_eqTerrainS (l : List Ter) (hl : l.length ≤ 1048576) (hc : ∀ t ∈ l, t.cost.length ≤ 1048576) : Fun E0 54 [.one (roT l), .one (roT l)] [] (.v (vB true)) [] [] := by
  refine Fun_of_xc k54 rfl rfl (fun k q h => by cases h) ?_
  ((conv=>whnf);repeat((first|refine Ct ‹_› ?_|refine Cf ‹_› ?_|refine Ct rfl ?_|refine Cf rfl ?_|refine Bi rfl ?_|refine Bz rfl ?_|refine Lr ?_);conv=>whnf))
  refine Cnd_f (by simp) ?_
  ((conv=>whnf);repeat((first|refine Ct ‹_› ?_|refine Cf ‹_› ?_|refine Ct rfl ?_|refine Cf rfl ?_|refine Bi rfl ?_|refine Bz rfl ?_|refine Lr ?_);conv=>whnf))
  refine WLoop_v ⟨[0, 1, 5], [], []⟩ (fun i : Int => hdS 27 [(0, .v (.one (roT l))), (1, .v (.one (roT l))), (5, .v (vI i))] [] [])
    (fun k i => 0 ≤ i ∧ i + k = l.length) l.length 0 rfl ⟨by omega, by omega⟩ ?_
  rintro k i ⟨h1, h2⟩
  ((conv=>whnf);repeat((first|refine Ct ‹_› ?_|refine Cf ‹_› ?_|refine Ct rfl ?_|refine Cf rfl ?_|refine Bi rfl ?_|refine Bz rfl ?_|refine Lr ?_);conv=>whnf))
  refine Cnd_i (fun h => ?_) (fun h => ?_)
  · have hi' : i < l.length := of_decide_eq_true h
    ((conv=>whnf);repeat((first|refine Ct ‹_› ?_|refine Cf ‹_› ?_|refine Ct rfl ?_|refine Cf rfl ?_|refine Bi rfl ?_|refine Bz rfl ?_|refine Lr ?_);conv=>whnf))
    refine Bnd_i ⟨h1, hi'⟩ ?_
    ((conv=>whnf);repeat((first|refine Ct ‹_› ?_|refine Cf ‹_› ?_|refine Ct rfl ?_|refine Cf rfl ?_|refine Bi rfl ?_|refine Bz rfl ?_|refine Lr ?_);conv=>whnf))
    refine Bnd_i ⟨h1, hi'⟩ ?_
    ((conv=>whnf);repeat((first|refine Ct ‹_› ?_|refine Cf ‹_› ?_|refine Ct rfl ?_|refine Cf rfl ?_|refine Bi rfl ?_|refine Bz rfl ?_|refine Lr ?_);conv=>whnf))
    refine CallQ_some (F_eqTerrain (l.getD i.toNat Ter.d) (hc _ (getD_memT h1 hi'))) rfl rfl ?_
    ((conv=>whnf);repeat((first|refine Ct ‹_› ?_|refine Cf ‹_› ?_|refine Ct rfl ?_|refine Cf rfl ?_|refine Bi rfl ?_|refine Bz rfl ?_|refine Lr ?_);conv=>whnf))
    refine ⟨k - 1, i + 1, ?_, ?_, ?_, ?_⟩
    · rw [wrapI (by omega)]; rfl
    · omega
    · omega
    · omega
  · ((conv=>whnf);repeat((first|refine Ct ‹_› ?_|refine Cf ‹_› ?_|refine Ct rfl ?_|refine Cf rfl ?_|refine Bi rfl ?_|refine Bz rfl ?_|refine Lr ?_);conv=>whnf))
    exact ⟨rfl, rfl, rfl⟩

theorem F_eqKind (t : Knd) : Fun E0 72 [.agg t.cs, .agg t.cs] [] (.v (vB true)) [] [] := by
  refine Fun_of_xc k72 rfl rfl (fun k q h => by cases h) ?_
  ((conv=>whnf);repeat((first|refine Ct ‹_› ?_|refine Cf ‹_› ?_|refine Ct rfl ?_|refine Cf rfl ?_|refine Bi rfl ?_|refine Bz rfl ?_|refine Lr ?_);conv=>whnf))
  refine Cnd_f (by simp) ?_
  ((conv=>whnf);repeat((first|refine Ct ‹_› ?_|refine Cf ‹_› ?_|refine Ct rfl ?_|refine Cf rfl ?_|refine Bi rfl ?_|refine Bz rfl ?_|refine Lr ?_);conv=>whnf))
  refine Cnd_f (by simp) ?_
  ((conv=>whnf);repeat((first|refine Ct ‹_› ?_|refine Cf ‹_› ?_|refine Ct rfl ?_|refine Cf rfl ?_|refine Bi rfl ?_|refine Bz rfl ?_|refine Lr ?_);conv=>whnf))
  refine Cnd_f (by simp) ?_
  ((conv=>whnf);repeat((first|refine Ct ‹_› ?_|refine Cf ‹_› ?_|refine Ct rfl ?_|refine Cf rfl ?_|refine Bi rfl ?_|refine Bz rfl ?_|refine Lr ?_);conv=>whnf))
  refine Cnd_f (by simp) ?_
  ((conv=>whnf);repeat((first|refine Ct ‹_› ?_|refine Cf ‹_› ?_|refine Ct rfl ?_|refine Cf rfl ?_|refine Bi rfl ?_|refine Bz rfl ?_|refine Lr ?_);conv=>whnf))
  refine Cnd_f (by simp) ?_
  ((conv=>whnf);repeat((first|refine Ct ‹_› ?_|refine Cf ‹_› ?_|refine Ct rfl ?_|refine Cf rfl ?_|refine Bi rfl ?_|refine Bz rfl ?_|refine Lr ?_);conv=>whnf))
  refine Cnd_f (by simp) ?_
  ((conv=>whnf);repeat((first|refine Ct ‹_› ?_|refine Cf ‹_› ?_|refine Ct rfl ?_|refine Cf rfl ?_|refine Bi rfl ?_|refine Bz rfl ?_|refine Lr ?_);conv=>whnf))
  exact ⟨rfl, rfl, rfl⟩

theorem F_eqKindS (l : List Knd) (hl : l.length ≤ 1048576) : Fun E0 55 [.one (roK l), .one (roK l)] [] (.v (vB true)) [] [] := by
  refine Fun_of_xc k55 rfl rfl (fun k q h => by cases h) ?_
  ((conv=>whnf);repeat((first|refine Ct ‹_› ?_|refine Cf ‹_› ?_|refine Ct rfl ?_|refine Cf rfl ?_|refine Bi rfl ?_|refine Bz rfl ?_|refine Lr ?_);conv=>whnf))
  refine Cnd_f (by simp) ?_
  ((conv=>whnf);repeat((first|refine Ct ‹_› ?_|refine Cf ‹_› ?_|refine Ct rfl ?_|refine Cf rfl ?_|refine Bi rfl ?_|refine Bz rfl ?_|refine Lr ?_);conv=>whnf))
  refine WLoop_v ⟨[0, 1, 5], [], []⟩ (fun i : Int => hdS 27 [(0, .v (.one (roK l))), (1, .v (.one (roK l))), (5, .v (vI i))] [] [])
    (fun k i => 0 ≤ i ∧ i + k = l.length) l.length 0 rfl ⟨by omega, by omega⟩ ?_
  rintro k i ⟨h1, h2⟩
  ((conv=>whnf);repeat((first|refine Ct ‹_› ?_|refine Cf ‹_› ?_|refine Ct rfl ?_|refine Cf rfl ?_|refine Bi rfl ?_|refine Bz rfl ?_|refine Lr ?_);conv=>whnf))
  refine Cnd_i (fun h => ?_) (fun h => ?_)
  · have hi' : i < l.length := of_decide_eq_true h
    ((conv=>whnf);repeat((first|refine Ct ‹_› ?_|refine Cf ‹_› ?_|refine Ct rfl ?_|refine Cf rfl ?_|refine Bi rfl ?_|refine Bz rfl ?_|refine Lr ?_);conv=>whnf))
    refine Bnd_i ⟨h1, hi'⟩ ?_
    ((conv=>whnf);repeat((first|refine Ct ‹_› ?_|refine Cf ‹_› ?_|refine Ct rfl ?_|refine Cf rfl ?_|refine Bi rfl ?_|refine Bz rfl ?_|refine Lr ?_);conv=>whnf))
    refine Bnd_i ⟨h1, hi'⟩ ?_
    ((conv=>whnf);repeat((first|refine Ct ‹_› ?_|refine Cf ‹_› ?_|refine Ct rfl ?_|refine Cf rfl ?_|refine Bi rfl ?_|refine Bz rfl ?_|refine Lr ?_);conv=>whnf))
    refine CallQ_some (F_eqKind (l.getD i.toNat Knd.d)) rfl rfl ?_
    ((conv=>whnf);repeat((first|refine Ct ‹_› ?_|refine Cf ‹_› ?_|refine Ct rfl ?_|refine Cf rfl ?_|refine Bi rfl ?_|refine Bz rfl ?_|refine Lr ?_);conv=>whnf))
    refine ⟨k - 1, i + 1, ?_, ?_, ?_, ?_⟩
    · rw [wrapI (by omega)]; rfl
    · omega
    · omega
    · omega
  · ((conv=>whnf);repeat((first|refine Ct ‹_› ?_|refine Cf ‹_› ?_|refine Ct rfl ?_|refine Cf rfl ?_|refine Bi rfl ?_|refine Bz rfl ?_|refine Lr ?_);conv=>whnf))
    exact ⟨rfl, rfl, rfl⟩

theorem F_eqRules (r : Rul) (h : r.Sm) : Fun E0 25 [.agg r.cs, .agg r.cs] [] (.v (vB true)) [] [] := by
  refine Fun_of_xc k25 rfl rfl (fun k q h => by cases h) ?_
  ((conv=>whnf);repeat((first|refine Ct ‹_› ?_|refine Cf ‹_› ?_|refine Ct rfl ?_|refine Cf rfl ?_|refine Bi rfl ?_|refine Bz rfl ?_|refine Lr ?_);conv=>whnf))
  refine CallQ_some (F_eqTerrainS r.ter h.ter h.cost) rfl rfl ?_
  ((conv=>whnf);repeat((first|refine Ct ‹_› ?_|refine Cf ‹_› ?_|refine Ct rfl ?_|refine Cf rfl ?_|refine Bi rfl ?_|refine Bz rfl ?_|refine Lr ?_);conv=>whnf))
  refine CallQ_some (F_eqKindS r.knd h.knd) rfl rfl ?_
  ((conv=>whnf);repeat((first|refine Ct ‹_› ?_|refine Cf ‹_› ?_|refine Ct rfl ?_|refine Cf rfl ?_|refine Bi rfl ?_|refine Bz rfl ?_|refine Lr ?_);conv=>whnf))
  refine Cnd_f (by simp) ?_
  ((conv=>whnf);repeat((first|refine Ct ‹_› ?_|refine Cf ‹_› ?_|refine Ct rfl ?_|refine Cf rfl ?_|refine Bi rfl ?_|refine Bz rfl ?_|refine Lr ?_);conv=>whnf))
  refine Cnd_f (by simp) ?_
  ((conv=>whnf);repeat((first|refine Ct ‹_› ?_|refine Cf ‹_› ?_|refine Ct rfl ?_|refine Cf rfl ?_|refine Bi rfl ?_|refine Bz rfl ?_|refine Lr ?_);conv=>whnf))
  refine Cnd_f (by simp) ?_
  ((conv=>whnf);repeat((first|refine Ct ‹_› ?_|refine Cf ‹_› ?_|refine Ct rfl ?_|refine Cf rfl ?_|refine Bi rfl ?_|refine Bz rfl ?_|refine Lr ?_);conv=>whnf))
  refine Cnd_f (by simp) ?_
  ((conv=>whnf);repeat((first|refine Ct ‹_› ?_|refine Cf ‹_› ?_|refine Ct rfl ?_|refine Cf rfl ?_|refine Bi rfl ?_|refine Bz rfl ?_|refine Lr ?_);conv=>whnf))
  refine Cnd_f (by simp) ?_
  ((conv=>whnf);repeat((first|refine Ct ‹_› ?_|refine Cf ‹_› ?_|refine Ct rfl ?_|refine Cf rfl ?_|refine Bi rfl ?_|refine Bz rfl ?_|refine Lr ?_);conv=>whnf))
  exact ⟨rfl, rfl, rfl⟩

theorem F_eqMap (m : Map) (h : m.Sm) : Fun E0 26 [.agg m.cs, .agg m.cs] [] (.v (vB true)) [] [] := by
  refine Fun_of_xc k26 rfl rfl (fun k q h => by cases h) ?_
  ((conv=>whnf);repeat((first|refine Ct ‹_› ?_|refine Cf ‹_› ?_|refine Ct rfl ?_|refine Cf rfl ?_|refine Bi rfl ?_|refine Bz rfl ?_|refine Lr ?_);conv=>whnf))
  refine Cnd_f (by simp) ?_
  ((conv=>whnf);repeat((first|refine Ct ‹_› ?_|refine Cf ‹_› ?_|refine Ct rfl ?_|refine Cf rfl ?_|refine Bi rfl ?_|refine Bz rfl ?_|refine Lr ?_);conv=>whnf))
  refine Cnd_f (by simp) ?_
  ((conv=>whnf);repeat((first|refine Ct ‹_› ?_|refine Cf ‹_› ?_|refine Ct rfl ?_|refine Cf rfl ?_|refine Bi rfl ?_|refine Bz rfl ?_|refine Lr ?_);conv=>whnf))
  refine CallQ_some (F_eqIntS m.ter h.ter) rfl rfl ?_
  ((conv=>whnf);repeat((first|refine Ct ‹_› ?_|refine Cf ‹_› ?_|refine Ct rfl ?_|refine Cf rfl ?_|refine Bi rfl ?_|refine Bz rfl ?_|refine Lr ?_);conv=>whnf))
  refine CallQ_some (F_eqIntS m.riv h.riv) rfl rfl ?_
  ((conv=>whnf);repeat((first|refine Ct ‹_› ?_|refine Cf ‹_› ?_|refine Ct rfl ?_|refine Cf rfl ?_|refine Bi rfl ?_|refine Bz rfl ?_|refine Lr ?_);conv=>whnf))
  refine CallQ_some (F_eqIntS m.roa h.roa) rfl rfl ?_
  ((conv=>whnf);repeat((first|refine Ct ‹_› ?_|refine Cf ‹_› ?_|refine Ct rfl ?_|refine Cf rfl ?_|refine Bi rfl ?_|refine Bz rfl ?_|refine Lr ?_);conv=>whnf))
  exact ⟨rfl, rfl, rfl⟩

theorem F_eqBoard (b : Brd) (h : b.Sm) : Fun E0 8 [.agg b.cs, .agg b.cs] [] (.v (vB true)) [] [] := by
  refine Fun_of_xc k8 rfl rfl (fun k q h => by cases h) ?_
  ((conv=>whnf);repeat((first|refine Ct ‹_› ?_|refine Cf ‹_› ?_|refine Ct rfl ?_|refine Cf rfl ?_|refine Bi rfl ?_|refine Bz rfl ?_|refine Lr ?_);conv=>whnf))
  refine CallQ_some (F_eqRules b.r h.r) rfl rfl ?_
  ((conv=>whnf);repeat((first|refine Ct ‹_› ?_|refine Cf ‹_› ?_|refine Ct rfl ?_|refine Cf rfl ?_|refine Bi rfl ?_|refine Bz rfl ?_|refine Lr ?_);conv=>whnf))
  refine CallQ_some (F_eqMap b.m h.m) rfl rfl ?_
  ((conv=>whnf);repeat((first|refine Ct ‹_› ?_|refine Cf ‹_› ?_|refine Ct rfl ?_|refine Cf rfl ?_|refine Bi rfl ?_|refine Bz rfl ?_|refine Lr ?_);conv=>whnf))
  exact ⟨rfl, rfl, rfl⟩

theorem CallQ_eq {E : Env} {f : Nat} {av av' : List V} {hot : Bool} {d : Option Nat} {ob : Ob} {K : T → Ob → Prop} (e : av = av') (h : CallQ E f av' hot d ob K) : CallQ E f av hot d ob K := e ▸ h

theorem nth_map {g : Cell → Cell} (hg : g .u = .u) : ∀ (l : List Cell) (j : Nat), g (nth l j) = nth (l.map g) j
  | [], _ => hg
  | _ :: _, 0 => rfl
  | _ :: l, j + 1 => nth_map hg l j

theorem toRo_nth (l : List Cell) (j : Nat) : toRo (nth l j) = nth (l.map toRo) j := nth_map rfl l j

theorem snapT (l : List Ter) : Cell.ro 5 l.length (fun i j => toRo (nth (l.getD i Ter.d).cw j)) = roT l := by
  unfold roT
  congr 1
  funext i j
  rw [toRo_nth]; rfl

theorem snapK (l : List Knd) : Cell.ro 6 l.length (fun i j => toRo (nth (l.getD i Knd.d).cs j)) = roK l := by
  unfold roK
  congr 1
  funext i j
  rw [toRo_nth]; rfl

theorem snapB (b : Brd) (L : List V) :
    V.agg [.ro 5 b.r.ter.length fun i j => toRo (nth (b.r.ter.getD i Ter.d).cw j), .ro 6 b.r.knd.length fun i j => toRo (nth (b.r.knd.getD i Knd.d).cs j), cI b.r.stack, cI b.r.river, cI b.r.road, cI b.r.supply, cI b.r.turns,
      cI b.m.w, cI b.m.h, roI b.m.ter, roI b.m.riv, roI b.m.roa] :: L = V.agg b.cs :: L := by rw [snapT, snapK]

theorem snapBB (b : Brd) :
    [V.agg [.ro 5 b.r.ter.length fun i j => toRo (nth (b.r.ter.getD i Ter.d).cw j), .ro 6 b.r.knd.length fun i j => toRo (nth (b.r.knd.getD i Knd.d).cs j), cI b.r.stack, cI b.r.river, cI b.r.road, cI b.r.supply, cI b.r.turns,
      cI b.m.w, cI b.m.h, roI b.m.ter, roI b.m.riv, roI b.m.roa],
     V.agg [.ro 5 b.r.ter.length fun i j => toRo (nth (b.r.ter.getD i Ter.d).cw j), .ro 6 b.r.knd.length fun i j => toRo (nth (b.r.knd.getD i Knd.d).cs j), cI b.r.stack, cI b.r.river, cI b.r.road, cI b.r.supply, cI b.r.turns,
      cI b.m.w, cI b.m.h, roI b.m.ter, roI b.m.riv, roI b.m.roa]] = [V.agg b.cs, V.agg b.cs] := by rw [snapT, snapK]

theorem sub1_sm {left n : Int} (h : ¬ sub1 left n < 0) : n ≤ left ∧ sub1 left n = left - n := by
  unfold sub1 at h ⊢
  by_cases g : left - n < 0
  · rw [if_pos g] at h; omega
  · rw [if_neg g]; omega

theorem szL_sm {α : Type} {f : α → Int → Int} {p : α → Prop} (hf : ∀ a x, 0 ≤ x → x ≤ 1048576 → ¬ f a x < 0 → p a ∧ f a x ≤ 1048576) : ∀ (l : List α) (x : Int), 0 ≤ x → x ≤ 1048576 → ¬ szL f l x < 0 → ∀ a ∈ l, p a
  | [], _, _, _, _, _, h => by cases h
  | a :: l, x, h0, h1, h, b, hb => by
    unfold szL at h
    by_cases g : f a x < 0
    · rw [if_pos g] at h; omega
    · rw [if_neg g] at h
      obtain ⟨c1, c2⟩ := hf a x h0 h1 g
      rcases List.mem_cons.1 hb with rfl | hb
      · exact c1
      · exact szL_sm hf l _ (by omega) c2 h b hb

theorem szS_sm {α : Type} {f : α → Int → Int} {p : α → Prop} (hf : ∀ a x, 0 ≤ x → x ≤ 1048576 → ¬ f a x < 0 → p a ∧ f a x ≤ 1048576) (l : List α) (x : Int) (h0 : 0 ≤ x) (h1 : x ≤ 1048576) (h : ¬ szS f l x < 0) : l.length ≤ 1048576 ∧ ∀ a ∈ l, p a := by
  unfold szS at h
  by_cases g : x - l.length < 0
  · rw [if_pos g] at h; omega
  · rw [if_neg g] at h
    exact ⟨by omega, szL_sm hf l _ (by omega) (by omega) h⟩

theorem szT_sm {t : Ter} {x : Int} (h0 : 0 ≤ x) (h1 : x ≤ 1048576) (h : ¬ szT t x < 0) : t.cost.length ≤ 1048576 ∧ szT t x ≤ 1048576 := by
  refine ⟨?_, (szT_b h0 h1).1⟩
  unfold szT at h
  by_cases g : x - t.name.size < 0
  · rw [if_pos g] at h; omega
  · rw [if_neg g] at h
    have := (sub1_sm h).1
    omega

theorem szB_sm {b : Brd} {x : Int} (h0 : 0 ≤ x) (h1 : x ≤ 1048576) (h : ¬ szB b x < 0) : b.Sm ∧ szB b x ≤ 1048576 := by
  unfold szB at h ⊢
  by_cases g : szR b.r x < 0
  · rw [if_pos g] at h; omega
  rw [if_neg g] at h ⊢
  by_cases g2 : szM b.m (szR b.r x) < 0
  · rw [if_pos g2] at h; omega
  rw [if_neg g2]
  clear h
  have gb := szR_b (r := b.r) h0 h1
  unfold szR at g
  by_cases e1 : szS szT b.r.ter x < 0
  · rw [if_pos e1] at g; omega
  rw [if_neg e1] at g
  by_cases e2 : szS szK b.r.knd (szS szT b.r.ter x) < 0
  · rw [if_pos e2] at g; omega
  have b1 := szS_b (f := szT) (fun t x a b => (szT_b a b).1) b.r.ter h0 h1
  have k1 := szS_sm (p := fun t : Ter => t.cost.length ≤ 1048576) (fun a x h0 h1 h => szT_sm h0 h1 h) b.r.ter x h0 h1 e1
  have k2 := szS_sm (f := szK) (p := fun _ => True) (fun a x h0 h1 h => ⟨trivial, (szK_b h0 h1).1⟩) b.r.knd _ (by omega) b1 e2
  unfold szM at g2 ⊢
  generalize szR b.r x = y at *
  by_cases e3 : sub1 y b.m.ter.length < 0
  · rw [if_pos e3] at g2; omega
  rw [if_neg e3] at g2 ⊢
  by_cases e4 : sub1 (sub1 y b.m.ter.length) b.m.riv.length < 0
  · rw [if_pos e4] at g2; omega
  rw [if_neg e4] at g2 ⊢
  have m1 := sub1_sm e3
  have m2 := sub1_sm e4
  have m3 := sub1_sm g2
  exact ⟨⟨⟨k1.1, k1.2, k2.1⟩, ⟨by omega, by omega, by omega⟩⟩, by omega⟩

/-- a board that is as it should be, with a hex of that number -/
def okPl (b : Brd) (i : Int) : Bool := okBrd b && In i 0 (b.m.w * b.m.h - 1)

structure PlOk (b : Brd) (i : Int) : Prop where
  gb : GB b
  i0 : 0 ≤ i
  i1 : i < b.m.ter.length

theorem PlOk.of {b : Brd} (ho : b.Ok) {i : Int} (h : okPl b i = true) : PlOk b i := by
  simp only [okPl, Bool.and_eq_true] at h
  have g := GB.of ho h.1
  have a := of_decide_eq_true h.2
  have := g.n
  exact ⟨g, by omega, by omega⟩

/-- the last digit, as a letter -/
def db (k : Int) : UInt8 := UInt8.ofNat (48 + k.toNat % 10)

/-- a row of numbers to which one is appended -/
theorem rwI_app (l : List Int) (x : Int) (g : Nat → Nat → Cell) (h : g 0 0 = cI x) : RowEq (appRow (rwI l) 1 g) (rwI (l ++ [x])) := by
  refine ⟨rfl, rfl, by simp [appRow], fun i j hi hj => ?_⟩
  have hj : j < 1 := hj
  obtain rfl : j = 0 := by omega
  have hi : i < l.length + 1 := hi
  show (bif Nat.blt i l.length then cI (l.getD i 0) else g (i - l.length) 0) = cI ((l ++ [x]).getD i 0)
  by_cases e : i < l.length
  · have : Nat.blt i l.length = true := by simpa [Nat.blt_eq] using e
    rw [this]
    simp [List.getElem?_append, e]
  · have : Nat.blt i l.length = false := by
      rw [Bool.eq_false_iff]; intro h; exact e (by simpa [Nat.blt_eq] using h)
    rw [this, show i = l.length by omega]
    simp [h]

theorem rwI_nil (g : Nat → Nat → Cell) : RowEq ⟨false, 1, 0, g⟩ (rwI []) := ⟨rfl, rfl, rfl, fun i j hi _ => by simp at hi⟩

theorem stepC_b {b : Brd} (h : GB b) {k i d w : Int} (k0 : 0 ≤ k ∧ k < b.r.knd.length) (w0 : 0 ≤ w ∧ w ≤ 2) : 0 ≤ stepC b k i d w ∧ stepC b k i d w ≤ 20 ∧ (stepC b k i d w ≠ 0 → 0 ≤ nx b.m i d ∧ nx b.m i d < b.m.ter.length) := by
  have hb := nx_b h.wh i d
  have hn := h.n
  have hr := h.road
  have hw1 := wx_b (r := true) w0.1 w0.2
  have hw2 := wx_b (r := false) w0.1 w0.2
  unfold stepC
  split
  · omega
  · rename_i g
    have hc := h.cost (k := k) (i := nx b.m i d) (by omega) (by omega) k0.1 k0.2
    split
    · omega
    · split
      · omega
      · split <;> omega

structure Stt.Sm (s : Stt) : Prop where
  un : s.un.length ≤ 1048576

def okUnt (b : Brd) (u : Unt) : Bool := In u.side 0 1 && In u.kind 0 (b.r.knd.length - 1) && In u.ste 0 (b.r.knd.getD u.kind.toNat Knd.d).ste &&
  (u.at' == -1 || (decide (u.ste > 0) && In u.at' 0 (b.m.w * b.m.h - 1) && decide (costAt b u.kind u.at' > 0)))

structure UnOk (b : Brd) (u : Unt) : Prop where
  side : u.side = 0 ∨ u.side = 1
  kind : 0 ≤ u.kind ∧ u.kind < b.r.knd.length
  ste : 0 ≤ u.ste ∧ u.ste ≤ (b.r.knd.getD u.kind.toNat Knd.d).ste
  at' : u.at' = -1 ∨ (0 ≤ u.at' ∧ u.at' < b.m.ter.length ∧ 0 < u.ste ∧ 0 < costAt b u.kind u.at')

theorem UnOk.of {b : Brd} (h : GB b) {u : Unt} (hu : okUnt b u = true) : UnOk b u := by
  simp only [okUnt, Bool.and_eq_true, Bool.or_eq_true, beq_iff_eq] at hu
  obtain ⟨⟨⟨h1, h2⟩, h3⟩, h4⟩ := hu
  have a1 := of_decide_eq_true h1
  have a2 := of_decide_eq_true h2
  have a3 := of_decide_eq_true h3
  refine ⟨by omega, by omega, a3, ?_⟩
  rcases h4 with h4 | ⟨⟨h4, h5⟩, h6⟩
  · exact .inl h4
  · have a4 := of_decide_eq_true h4
    have a5 := of_decide_eq_true h5
    have a6 := of_decide_eq_true h6
    have := h.n
    exact .inr ⟨a5.1, by omega, a4, a6⟩

/-- the places of the first n units that are so -/
def selU (q : Unt → Bool) (us : List Unt) : Nat → List Int
  | 0 => []
  | n + 1 => if q (us.getD n Unt.d) = true then selU q us n ++ [(n : Int)] else selU q us n

def atQ (i side : Int) (u : Unt) : Bool := u.at' == i && u.side == side

/-- whose the first unit at a place is, -1 if there is none -/
def ownR (i : Int) : List Unt → Int
  | [] => -1
  | u :: l => if (u.at' == i) = true then u.side else ownR i l

/-! ### how many of a side stand at a place -/
def cnt (us : List Unt) (n : Nat) (i s : Int) : Int := (selU (atQ i s) us n).length

def stk (st : Int) (us : List Unt) : Prop := ∀ k, k < us.length → 0 ≤ (us.getD k Unt.d).at' → cnt us us.length (us.getD k Unt.d).at' (1 - (us.getD k Unt.d).side) = 0 ∧ cnt us us.length (us.getD k Unt.d).at' (us.getD k Unt.d).side ≤ st

def pre (st : Int) (us : List Unt) (n : Nat) : Prop := ∀ k, k < n → 0 ≤ (us.getD k Unt.d).at' → cnt us (k + 1) (us.getD k Unt.d).at' (1 - (us.getD k Unt.d).side) = 0 ∧ cnt us (k + 1) (us.getD k Unt.d).at' (us.getD k Unt.d).side ≤ st

noncomputable instance instStk (st : Int) (us : List Unt) : Decidable (stk st us) := Classical.propDecidable _

noncomputable def okSt (b : Brd) (s : Stt) : Bool := In s.turn 0 b.r.turns && In s.wea 0 2 && decide (s.un.length ≤ 12) && s.un.all (okUnt b) && @decide (stk b.r.stack s.un) (instStk b.r.stack s.un)

structure StOk (b : Brd) (s : Stt) : Prop where
  gb : GB b
  turn : 0 ≤ s.turn ∧ s.turn ≤ b.r.turns
  wea : 0 ≤ s.wea ∧ s.wea ≤ 2
  len : s.un.length ≤ 12
  un : ∀ u ∈ s.un, UnOk b u
  stk : stk b.r.stack s.un

theorem StOk.of {b : Brd} {s : Stt} (ho : b.Ok) (h : (okBrd b && okSt b s) = true) : StOk b s := by
  simp only [okSt, Bool.and_eq_true] at h
  obtain ⟨h0, ⟨⟨⟨h1, h2⟩, h3⟩, h4⟩, h5⟩ := h
  have g := GB.of ho h0
  exact ⟨g, of_decide_eq_true h1, of_decide_eq_true h2, of_decide_eq_true h3, fun u hu => UnOk.of g (List.all_eq_true.1 h4 u hu), of_decide_eq_true h5⟩

theorem StOk.side {b : Brd} {s : Stt} (h : StOk b s) {k : Nat} (hk : k < s.un.length) : (s.un.getD k Unt.d).side = 0 ∨ (s.un.getD k Unt.d).side = 1 := by
  refine (h.un _ ?_).side
  have := getD_memT (l := s.un) (d := Unt.d) (i := (k : Int)) (by omega) (by omega)
  rwa [Int.toNat_natCast] at this

theorem ownR_spec (i : Int) (us : List Unt) : ((∀ k, k < us.length → (us.getD k Unt.d).at' ≠ i) ∧ ownR i us = -1) ∨ ∃ k, k < us.length ∧ (us.getD k Unt.d).at' = i ∧ (us.getD k Unt.d).side = ownR i us := by
  induction us with
  | nil => exact .inl ⟨fun k hk => by simp at hk, rfl⟩
  | cons u l ih =>
    by_cases e : u.at' = i
    · exact .inr ⟨0, by simp, by simpa using e, by rw [ownR, if_pos (by simpa using e)]; simp⟩
    · rw [ownR, if_neg (by simpa using e)]
      rcases ih with ⟨h1, h2⟩ | ⟨k, h1, h2, h3⟩
      · refine .inl ⟨fun k hk => ?_, h2⟩
        cases k with
        | zero => simpa using e
        | succ k => simpa using h1 k (by simpa using hk)
      · exact .inr ⟨k + 1, by simpa using h1, by simpa using h2, by simpa using h3⟩

def zDir (m : Map) (a i : Int) : Nat → Int → Bool
  | 0, _ => false
  | n + 1, d => if (nx m a d == i) = true then (!(m.riv.contains (ed m a d)) || m.roa.contains (ed m a d)) else zDir m a i n (d + 1)

/-- does a unit control a place -/
def zx (b : Brd) (u : Unt) (i : Int) : Bool := if decide (u.at' < 0) = true then false else if (b.r.knd.getD u.kind.toNat Knd.d).zone = true then
  if (costAt b u.kind i == 0) = true then false else zDir b.m u.at' i 6 0 else false

def zS (b : Brd) (side i : Int) (u : Unt) : Bool := u.side == side && zx b u i

def zn (b : Brd) (s : Stt) (side i : Int) : Bool := s.un.any (zS b side i)

theorem StOk.own {b : Brd} {s : Stt} (h : StOk b s) (i : Int) : ownR i s.un = -1 ∨ ownR i s.un = 0 ∨ ownR i s.un = 1 := by
  rcases ownR_spec i s.un with ⟨_, e⟩ | ⟨k, h1, _, h3⟩
  · exact .inl e
  · have := h.side h1
    omega

/-- is a step in that way open to a unit -/
def opn (b : Brd) (s : Stt) (u : Unt) (k : Int) : Bool := decide (costAt b u.kind k > 0) && (!(ownR k s.un == 1 - u.side) && !(zn b s (1 - u.side) k))

/-- the numbers below n that are so -/
def selN (p : Int → Bool) : Nat → List Int
  | 0 => []
  | n + 1 => if p (n : Int) = true then selN p n ++ [(n : Int)] else selN p n

theorem selN_le (p : Int → Bool) (n : Nat) : (selN p n).length ≤ n := by
  induction n with
  | zero => simp [selN]
  | succ n ih =>
    unfold selN
    split
    · rw [List.length_append]; simp; omega
    · omega

/-- a row of n numbers -/
abbrev rwIn (n : Nat) (L : List Int) : Row := ⟨false, 1, n, fun i _ => cI (L.getD i 0)⟩

theorem rwIn_eq {n : Nat} {L : List Int} (h : L.length = n) : rwI L = rwIn n L := by subst h; rfl

theorem rwIn_set (n : Nat) (L : List Int) (x : Int) (i : Nat) (h : i < L.length) : RowEq ⟨false, 1, n, wrG (fun i _ => cI (L.getD i 0)) i 0 [cI x]⟩ (rwIn n (L.set i x)) := by
  refine ⟨rfl, rfl, rfl, fun i' j _ hj => ?_⟩
  have hj : j < 1 := hj
  obtain rfl : j = 0 := by omega
  show wrG (fun i _ => cI (L.getD i 0)) i 0 [cI x] i' 0 = cI ((L.set i x).getD i' 0)
  rw [getD_set L i x i' h]
  by_cases e : i' = i
  · subst e
    rw [wrG_in (by simp), if_pos rfl]; rfl
  · rw [wrG_out (fun hh => e hh.1), if_neg e]

theorem rwIn_zero (n : Nat) : RowEq (zeroRow false 1 n [cI 0]) (rwIn n (List.replicate n 0)) := by
  refine ⟨rfl, rfl, rfl, fun i j hi hj => ?_⟩
  have hj : j < 1 := hj
  obtain rfl : j = 0 := by omega
  show cI 0 = cI ((List.replicate n (0 : Int)).getD i 0)
  rw [List.getD_eq_getElem?_getD, List.getElem?_replicate]
  split <;> rfl

/-- a row of n truth values -/
abbrev rwBn (n : Nat) (L : List Bool) : Row := ⟨false, 1, n, fun i _ => .bool (L.getD i false)⟩

theorem rwBn_set (n : Nat) (L : List Bool) (x : Bool) (i : Nat) (h : i < L.length) : RowEq ⟨false, 1, n, wrG (fun i _ => .bool (L.getD i false)) i 0 [.bool x]⟩ (rwBn n (L.set i x)) := by
  refine ⟨rfl, rfl, rfl, fun i' j _ hj => ?_⟩
  have hj : j < 1 := hj
  obtain rfl : j = 0 := by omega
  show wrG (fun i _ => .bool (L.getD i false)) i 0 [.bool x] i' 0 = Cell.bool ((L.set i x).getD i' false)
  rw [getD_setB L i x i' h]
  by_cases e : i' = i
  · subst e
    rw [wrG_in (by simp), if_pos rfl]; rfl
  · rw [wrG_out (fun hh => e hh.1), if_neg e]

theorem rwBn_zero (n : Nat) : RowEq (zeroRow false 1 n [.bool false]) (rwBn n (List.replicate n false)) := by
  refine ⟨rfl, rfl, rfl, fun i j hi hj => ?_⟩
  have hj : j < 1 := hj
  obtain rfl : j = 0 := by omega
  show Cell.bool false = Cell.bool ((List.replicate n false).getD i false)
  rw [List.getD_eq_getElem?_getD, List.getElem?_replicate]
  split <;> rfl

/-- y is the best of the first t places: none if -1 -/
def bestI (L : List Int) (D : List Bool) (y t : Int) : Prop :=
  (y = -1 ∧ ∀ j : Nat, (j : Int) < t → D.getD j false = false → L.getD j 0 < 0) ∨
  (0 ≤ y ∧ y < t ∧ D.getD y.toNat false = false ∧ 0 ≤ L.getD y.toNat 0 ∧ ∀ j : Nat, (j : Int) < t → D.getD j false = false → 0 ≤ L.getD j 0 → L.getD y.toNat 0 ≤ L.getD j 0)

theorem bestI.b {L : List Int} {D : List Bool} {y t : Int} (h : bestI L D y t) : y = -1 ∨ 0 ≤ y ∧ y < t := by
  rcases h with h | h
  · exact .inl h.1
  · exact .inr ⟨h.1, h.2.1⟩

theorem bestI.take {L : List Int} {D : List Bool} {y t : Int} (h : bestI L D y t) (h0 : 0 ≤ t) (h1 : D.getD t.toNat false = false) (h2 : L.getD t.toNat 0 ≥ 0) (h3 : y < 0 ∨ L.getD t.toNat 0 < L.getD y.toNat 0) : bestI L D t (t + 1) := by
  refine .inr ⟨h0, by omega, h1, h2, fun j hj hD hp => ?_⟩
  by_cases e : (j : Int) = t
  · rw [show t.toNat = j by omega]; exact Int.le_refl _
  · rcases h with h | ⟨a, _, _, _, c⟩
    · have := h.2 j (by omega) hD; omega
    · have := c j (by omega) hD hp
      omega

theorem bestI.keep {L : List Int} {D : List Bool} {y t : Int} (h : bestI L D y t) (h3 : D.getD t.toNat false = false → 0 ≤ L.getD t.toNat 0 → 0 ≤ y ∧ L.getD y.toNat 0 ≤ L.getD t.toNat 0) : bestI L D y (t + 1) := by
  rcases h with ⟨a, c⟩ | ⟨a, a1, a2, a3, c⟩
  · refine .inl ⟨a, fun j hj hD => ?_⟩
    by_cases e : (j : Int) = t
    · rw [show t.toNat = j by omega] at h3
      by_cases e2 : 0 ≤ L.getD j 0
      · have := (h3 hD e2).1; omega
      · omega
    · exact c j (by omega) hD
  · refine .inr ⟨a, by omega, a2, a3, fun j hj hD hp => ?_⟩
    by_cases e : (j : Int) = t
    · rw [show t.toNat = j by omega] at h3; exact (h3 hD hp).2
    · exact c j (by omega) hD hp

theorem Cnd_e {c c' : Bool} {A B : Prop} (e : c = c') (h : Cnd c' A B) : Cnd c A B := e ▸ h

theorem all_neg1 {L : List Int} {n : Nat} (hl : L.length = n) (h : ∀ j : Nat, j < n → L.getD j 0 = -1) : L = List.replicate n (-1) := by
  refine list_ext_getD (by simp [hl]) fun j hj => ?_
  rw [h j (by omega)]
  simp [List.getD_eq_getElem?_getD, show j < n by omega]

/-- a contract for a nil row in place of an empty one -/
theorem FunNog {E : Env} {f : Nat} {pre post : List V} {r : T} {obr obo : Ob} (h : Fun E f (pre ++ .one (roI []) :: post) [] r obr obo) : Fun E f (pre ++ .one (.ro 1 0 nog) :: post) [] r obr obo := by
  refine ⟨h.1, h.2.1, fun w I G vs h1 h2 h3 h4 h5 => h.2.2 w I G vs h1 h2 (by simpa using h3) (fun j v hj => ?_) h5⟩
  have h6 := h4 j v hj
  clear h4 h3 h hj h5 h2 h1
  induction pre generalizing j with
  | nil =>
    cases j with
    | zero => exact ro_get (h6 : CRep w I v (.ro 1 0 nog)) (fun i j hi _ => absurd hi (Nat.not_lt_zero _))
    | succ j => exact h6
  | cons x l ih =>
    cases j with
    | zero => exact h6
    | succ j => exact ih j h6

/-- a step that leads into no place of a list -/
def avP (av : List Int) : Int → Int → Bool := fun k _ => !(av.contains k)

abbrev bCo (b : Brd) (k w : Int) : Int → Int → Int := fun x d => stepC b k x d w

abbrev bEg (b : Brd) (k w : Int) (av : List Int) (bk : Bool) : Int → Int → Int → Prop := Eg b.m.ter.length (bCo b k w) (nx b.m) (avP av) bk

theorem eok_s {b : Brd} (h : GB b) {k w : Int} (k0 : 0 ≤ k ∧ k < b.r.knd.length) (w0 : 0 ≤ w ∧ w ≤ 2) (av : List Int) (bk : Bool) : EOk b.m.ter.length sumF (bEg b k w av bk) 20 := by
  have key : ∀ {j k' c}, bEg b k w av bk j k' c → ((0 ≤ j ∧ j < b.m.ter.length) ∧ (0 ≤ k' ∧ k' < b.m.ter.length)) ∧ 1 ≤ c ∧ c ≤ 20 := by
    intro j k' c hg
    obtain ⟨x, d, h1, h2, h3, rfl, h5, h6⟩ := hg
    have hb := stepC_b h (i := x) (d := d) k0 w0
    have hx := hb.2.2 h3.1
    have h31 : stepC b k x d w ≠ 0 := h3.1
    refine ⟨?_, by show 1 ≤ stepC b k x d w ∧ stepC b k x d w ≤ 20; omega⟩
    cases bk with
    | true => rw [if_pos rfl] at h5 h6; subst h5; subst h6; exact ⟨hx, h1⟩
    | false => rw [if_neg (by simp)] at h5 h6; subst h5; subst h6; exact ⟨h1, hx⟩
  refine ⟨by omega, fun j k' c hg => (key hg).1, fun j k' c a a' hg h0 hle => ?_, fun j k' c a hg h0 => ?_⟩
  · show a + c ≤ a' + c; omega
  · have := (key hg).2
    show a < a + c ∧ a + c ≤ a + 20; omega

/-- the least sums of costs from (or to) a place -/
noncomputable def dL (b : Brd) (k w i : Int) (av : List Int) (bk : Bool) : List Int := dstL b.m.ter.length sumF (bEg b k w av bk) 0 i

abbrev DstB (b : Brd) (k w i : Int) (av : List Int) (bk : Bool) (L : List Int) : Prop := Dst b.m.ter.length sumF (bEg b k w av bk) 0 i L

theorem dL_ok {b : Brd} (h : GB b) {k w i : Int} (k0 : 0 ≤ k ∧ k < b.r.knd.length) (w0 : 0 ≤ w ∧ w ≤ 2) (i0 : 0 ≤ i ∧ i < b.m.ter.length) (av : List Int) (bk : Bool) : DstB b k w i av bk (dL b k w i av bk) :=
  dstL_ok (eok_s h k0 w0 av bk) (Int.le_refl 0) i0

theorem dL_le {b : Brd} (h : GB b) {k w i : Int} (k0 : 0 ≤ k ∧ k < b.r.knd.length) (w0 : 0 ≤ w ∧ w ≤ 2) (i0 : 0 ≤ i ∧ i < b.m.ter.length) (av : List Int) (bk : Bool) (j : Nat) (hj : j < b.m.ter.length) : (dL b k w i av bk).getD j 0 ≤ 2000 := by
  have := dstL_le (eok_s h k0 w0 av bk) (Int.le_refl 0) i0 j hj
  have := h.n
  have := h.wh.mul
  show (dstL _ _ _ _ _).getD j 0 ≤ 2000
  omega

theorem F_relaxed (b : Brd) (h : GB b) (k w i : Int) (bk : Bool) (av : List Int) (k0 : 0 ≤ k ∧ k < b.r.knd.length) (w0 : 0 ≤ w ∧ w ≤ 2) (i0 : 0 ≤ i ∧ i < b.m.ter.length) (hav : av.length ≤ maxLen) :
    Fun E0 19 [.agg b.cs, vI k, vI w, vI i, vB bk, .one (roI av)] [] (.v (.one (.own 0 (dL b k w i av bk).length))) [(0, rwI (dL b k w i av bk))] [] := by
  have hm := h.wh.mul
  have hn := h.n
  have he := eok_s h k0 w0 av bk
  have hM : (0 : Int) + 20 * (b.m.ter.length : Int) + 20 < ((4000 : Nat) : Int) := by omega
  refine Fun_of_xc k19 rfl rfl (nrC (rwI_no _) nrN) ?_
  ((conv=>whnf);repeat((first|refine Ct ‹_› ?_|refine Cf ‹_› ?_|refine Ct rfl ?_|refine Cf rfl ?_|refine Bi rfl ?_|refine Bz rfl ?_|refine Lr ?_);conv=>whnf))
  refine Rw_i (rwI []) (rwI_nil _) ?_
  ((conv=>whnf);repeat((first|refine Ct ‹_› ?_|refine Cf ‹_› ?_|refine Ct rfl ?_|refine Cf rfl ?_|refine Bi rfl ?_|refine Bz rfl ?_|refine Lr ?_);conv=>whnf))
  (refine CallQ_some (F_sizeOf b) ?_ ?_ ?_; rfl; rfl); ((conv=>whnf);repeat((first|refine Ct ‹_› ?_|refine Cf ‹_› ?_|refine Ct rfl ?_|refine Cf rfl ?_|refine Bi rfl ?_|refine Bz rfl ?_|refine Lr ?_);conv=>whnf))
  refine Bnd_i (by omega) ?_
  ((conv=>whnf);repeat((first|refine Ct ‹_› ?_|refine Cf ‹_› ?_|refine Ct rfl ?_|refine Cf rfl ?_|refine Bi rfl ?_|refine Bz rfl ?_|refine Lr ?_);conv=>whnf))
  refine Rw_i (rwIn b.m.ter.length (List.replicate b.m.ter.length 0)) (rwIn_zero _) ?_
  ((conv=>whnf);repeat((first|refine Ct ‹_› ?_|refine Cf ‹_› ?_|refine Ct rfl ?_|refine Cf rfl ?_|refine Bi rfl ?_|refine Bz rfl ?_|refine Lr ?_);conv=>whnf))
  refine WLoop_v2 ⟨[1, 2, 3, 4, 5, 6, 13, 25, 26], [6], []⟩ (fun (t : Int) (L : List Int) => hdS 102 [(1, .v (vI k)), (2, .v (vI w)), (3, .v (vI i)), (4, .v (vB bk)), (5, .v (.one (roI av))), (6, .v (.one (.box 6 0))), (13, .v (.one (.own (vkey 13) b.m.ter.length))), (25, .v (vI b.m.ter.length)), (26, .v (vI t))] [(6, b.cs)] [(vkey 13, rwIn b.m.ter.length L)])
    (fun n t L => 0 ≤ t ∧ t + n = b.m.ter.length ∧ L.length = b.m.ter.length ∧ ∀ j : Nat, (j : Int) < t → L.getD j 0 = -1) b.m.ter.length 0 (List.replicate b.m.ter.length 0) rfl ⟨by omega, by omega, by simp, fun j hj => by omega⟩ ?_
  rintro n t L ⟨h1, h2, hlen, h3⟩
  ((conv=>whnf);repeat((first|refine Ct ‹_› ?_|refine Cf ‹_› ?_|refine Ct rfl ?_|refine Cf rfl ?_|refine Bi rfl ?_|refine Bz rfl ?_|refine Lr ?_);conv=>whnf))
  refine Cnd_i (fun g => ?_) (fun g => ?_)
  · have ht := of_decide_eq_true g
    ((conv=>whnf);repeat((first|refine Ct ‹_› ?_|refine Cf ‹_› ?_|refine Ct rfl ?_|refine Cf rfl ?_|refine Bi rfl ?_|refine Bz rfl ?_|refine Lr ?_);conv=>whnf))
    refine Bnd_i (⟨h1, ht⟩) ?_; ((conv=>whnf);repeat((first|refine Ct ‹_› ?_|refine Cf ‹_› ?_|refine Ct rfl ?_|refine Cf rfl ?_|refine Bi rfl ?_|refine Bz rfl ?_|refine Lr ?_);conv=>whnf))
    refine Rw_i (rwIn b.m.ter.length (L.set t.toNat (-1))) (rwIn_set _ _ _ _ (by omega)) ?_
    ((conv=>whnf);repeat((first|refine Ct ‹_› ?_|refine Cf ‹_› ?_|refine Ct rfl ?_|refine Cf rfl ?_|refine Bi rfl ?_|refine Bz rfl ?_|refine Lr ?_);conv=>whnf))
    refine ⟨n - 1, t + 1, L.set t.toNat (-1), ?_, by omega, by omega, by omega, by simp [hlen], fun j hj => ?_⟩
    · rw [wrapI (by omega)]; rfl
    · rw [getD_set _ _ _ _ (by omega)]
      split
      · rfl
      · exact h3 j (by omega)
  have ht := of_decide_eq_false g
  have hL := all_neg1 hlen (fun j hj => h3 j (by omega))
  subst hL
  clear h1 h2 h3 hlen g ht
  ((conv=>whnf);repeat((first|refine Ct ‹_› ?_|refine Cf ‹_› ?_|refine Ct rfl ?_|refine Cf rfl ?_|refine Bi rfl ?_|refine Bz rfl ?_|refine Lr ?_);conv=>whnf))
  refine Bnd_i (⟨i0.1, i0.2⟩) ?_; ((conv=>whnf);repeat((first|refine Ct ‹_› ?_|refine Cf ‹_› ?_|refine Ct rfl ?_|refine Cf rfl ?_|refine Bi rfl ?_|refine Bz rfl ?_|refine Lr ?_);conv=>whnf))
  refine Rw_i (rwIn b.m.ter.length ((List.replicate b.m.ter.length (-1)).set i.toNat 0)) (rwIn_set _ _ _ _ (by simp; omega)) ?_
  ((conv=>whnf);repeat((first|refine Ct ‹_› ?_|refine Cf ‹_› ?_|refine Ct rfl ?_|refine Cf rfl ?_|refine Bi rfl ?_|refine Bz rfl ?_|refine Lr ?_);conv=>whnf))
  have hin : Rlx b.m.ter.length sumF (bEg b k w av bk) 0 20 i ((List.replicate b.m.ter.length (-1)).set i.toNat 0) := Rlx.init (by omega) (Int.le_refl 0) i0
  refine WLoop_v2 ⟨[1, 2, 4, 5, 6, 13, 15], [6], []⟩ (fun (c : Bool) (L : List Int) => hdS 102 [(1, .v (vI k)), (2, .v (vI w)), (4, .v (vB bk)), (5, .v (.one (roI av))), (6, .v (.one (.box 6 0))), (13, .v (.one (.own (vkey 13) b.m.ter.length))), (15, .v (vB c))] [(6, b.cs)] [(vkey 13, rwIn b.m.ter.length L)])
    (fun n c L => n = 2 * mu 4000 L + (if c = true then 1 else 0) ∧ Rlx b.m.ter.length sumF (bEg b k w av bk) 0 20 i L ∧ (c = false → DstB b k w i av bk L)) _ true _ rfl ⟨rfl, hin, fun h => by cases h⟩ ?_
  rintro n0 c0 L0 ⟨hn0, hr0, hd0⟩
  ((conv=>whnf);repeat((first|refine Ct ‹_› ?_|refine Cf ‹_› ?_|refine Ct rfl ?_|refine Cf rfl ?_|refine Bi rfl ?_|refine Bz rfl ?_|refine Lr ?_);conv=>whnf))
  refine Cnd_i (fun g => ?_) (fun g => ?_)
  rotate_left
  · have hd := hd0 g
    ((conv=>whnf);repeat((first|refine Ct ‹_› ?_|refine Cf ‹_› ?_|refine Ct rfl ?_|refine Cf rfl ?_|refine Bi rfl ?_|refine Bz rfl ?_|refine Lr ?_);conv=>whnf))
    have e1 : dL b k w i av bk = L0 := hd.eq.symm
    rw [e1, rwIn_eq hd.len, hd.len]
    exact ⟨rfl, rfl, rfl⟩
  subst g
  ((conv=>whnf);repeat((first|refine Ct ‹_› ?_|refine Cf ‹_› ?_|refine Ct rfl ?_|refine Cf rfl ?_|refine Bi rfl ?_|refine Bz rfl ?_|refine Lr ?_);conv=>whnf))
  refine WLoop_v3 ⟨[1, 2, 4, 5, 6, 13, 15, 38, 39], [6], []⟩ (fun (x : Int) (c : Bool) (L : List Int) => hdS 102 [(1, .v (vI k)), (2, .v (vI w)), (4, .v (vB bk)), (5, .v (.one (roI av))), (6, .v (.one (.box 6 0))), (13, .v (.one (.own (vkey 13) b.m.ter.length))), (15, .v (vB c)), (38, .v (vI b.m.ter.length)), (39, .v (vI x))] [(6, b.cs)] [(vkey 13, rwIn b.m.ter.length L)])
    (fun n x c L => 0 ≤ x ∧ x + n = b.m.ter.length ∧ Swp b.m.ter.length sumF (bCo b k w) (nx b.m) (avP av) bk 0 20 i 4000 L0 x 0 L c) b.m.ter.length 0 false L0 rfl ⟨by omega, by omega, Swp.init hr0⟩ ?_
  rintro m x c L ⟨x1, x2, hsw⟩
  ((conv=>whnf);repeat((first|refine Ct ‹_› ?_|refine Cf ‹_› ?_|refine Ct rfl ?_|refine Cf rfl ?_|refine Bi rfl ?_|refine Bz rfl ?_|refine Lr ?_);conv=>whnf))
  refine Cnd_i (fun g => ?_) (fun g => ?_)
  rotate_left
  · have hx := of_decide_eq_false g
    ((conv=>whnf);repeat((first|refine Ct ‹_› ?_|refine Cf ‹_› ?_|refine Ct rfl ?_|refine Cf rfl ?_|refine Bi rfl ?_|refine Bz rfl ?_|refine Lr ?_);conv=>whnf))
    cases c with
    | true =>
      have := hsw.lt rfl
      refine ⟨2 * mu 4000 L + 1, true, L, rfl, by rw [hn0, if_pos rfl]; omega, rfl, hsw.r, fun h => by cases h⟩
    | false =>
      obtain ⟨e1, _⟩ := hsw.eq rfl
      refine ⟨2 * mu 4000 L, false, L, rfl, by rw [hn0, if_pos rfl, e1]; omega, rfl, hsw.r, fun _ => hsw.fin (by omega) he (Int.le_refl 0) i0⟩
  have hx := of_decide_eq_true g
  ((conv=>whnf);repeat((first|refine Ct ‹_› ?_|refine Cf ‹_› ?_|refine Ct rfl ?_|refine Cf rfl ?_|refine Bi rfl ?_|refine Bz rfl ?_|refine Lr ?_);conv=>whnf))
  refine WLoop_v3 ⟨[1, 2, 4, 5, 6, 13, 15, 16, 38, 39, 42], [6], []⟩ (fun (d : Int) (c : Bool) (L : List Int) => hdS 102 [(1, .v (vI k)), (2, .v (vI w)), (4, .v (vB bk)), (5, .v (.one (roI av))), (6, .v (.one (.box 6 0))), (13, .v (.one (.own (vkey 13) b.m.ter.length))), (15, .v (vB c)), (16, .v (vI x)), (38, .v (vI b.m.ter.length)), (39, .v (vI x)), (42, .v (vI d))] [(6, b.cs)] [(vkey 13, rwIn b.m.ter.length L)])
    (fun n d c L => 0 ≤ d ∧ d + n = 6 ∧ Swp b.m.ter.length sumF (bCo b k w) (nx b.m) (avP av) bk 0 20 i 4000 L0 x d L c) 6 0 c L rfl ⟨by omega, by omega, hsw⟩ ?_
  clear hsw
  rintro n d c L ⟨h1, h2, hsw⟩
  have hlen := hsw.r.len
  ((conv=>whnf);repeat((first|refine Ct ‹_› ?_|refine Cf ‹_› ?_|refine Ct rfl ?_|refine Cf rfl ?_|refine Bi rfl ?_|refine Bz rfl ?_|refine Lr ?_);conv=>whnf))
  refine Cnd_i (fun g => ?_) (fun g => ?_)
  rotate_left
  · have hd := of_decide_eq_false g
    ((conv=>whnf);repeat((first|refine Ct ‹_› ?_|refine Cf ‹_› ?_|refine Ct rfl ?_|refine Cf rfl ?_|refine Bi rfl ?_|refine Bz rfl ?_|refine Lr ?_);conv=>whnf))
    obtain rfl : d = 6 := by omega
    refine ⟨m - 1, x + 1, c, L, ?_, by omega, by omega, by omega, hsw.nxt⟩
    rw [wrapI (by omega)]; rfl
  have hd := of_decide_eq_true g
  have hx : 0 ≤ x ∧ x < b.m.ter.length := ⟨x1, hx⟩
  have hsb := stepC_b h (i := x) (d := d) k0 w0
  ((conv=>whnf);repeat((first|refine Ct ‹_› ?_|refine Cf ‹_› ?_|refine Ct rfl ?_|refine Cf rfl ?_|refine Bi rfl ?_|refine Bz rfl ?_|refine Lr ?_);conv=>whnf))
  (refine CallQ_some (F_stepCost b h k x d w k0.1 k0.2 hx.1 hx.2 h1 (by omega) w0.1 w0.2) ?_ ?_ ?_; rfl; rfl); ((conv=>whnf);repeat((first|refine Ct ‹_› ?_|refine Cf ‹_› ?_|refine Ct rfl ?_|refine Cf rfl ?_|refine Bi rfl ?_|refine Bz rfl ?_|refine Lr ?_);conv=>whnf))
  refine Cnd_i (fun g2 => ?_) (fun g2 => ?_)
  · have e2 : stepC b k x d w = 0 := by simpa using g2
    ((conv=>whnf);repeat((first|refine Ct ‹_› ?_|refine Cf ‹_› ?_|refine Ct rfl ?_|refine Cf rfl ?_|refine Bi rfl ?_|refine Bz rfl ?_|refine Lr ?_);conv=>whnf))
    refine ⟨n - 1, d + 1, c, L, ?_, by omega, by omega, by omega, hsw.skip (.inl e2)⟩
    rw [wrapI (by omega)]; rfl
  have e2 : stepC b k x d w ≠ 0 := by simpa using g2
  have hnx := hsb.2.2 e2
  ((conv=>whnf);repeat((first|refine Ct ‹_› ?_|refine Cf ‹_› ?_|refine Ct rfl ?_|refine Cf rfl ?_|refine Bi rfl ?_|refine Bz rfl ?_|refine Lr ?_);conv=>whnf))
  (refine CallQ_some (F_nextTo b.m h.wh x d hx.1 (by omega) h1 (by omega)) ?_ ?_ ?_; rfl; rfl); ((conv=>whnf);repeat((first|refine Ct ‹_› ?_|refine Cf ‹_› ?_|refine Ct rfl ?_|refine Cf rfl ?_|refine Bi rfl ?_|refine Bz rfl ?_|refine Lr ?_);conv=>whnf))
  (refine CallQ_some (F_Contains av (nx b.m x d) hav) ?_ ?_ ?_; rfl; rfl); ((conv=>whnf);repeat((first|refine Ct ‹_› ?_|refine Cf ‹_› ?_|refine Ct rfl ?_|refine Cf rfl ?_|refine Bi rfl ?_|refine Bz rfl ?_|refine Lr ?_);conv=>whnf))
  refine Cnd_i (fun g3 => ?_) (fun g3 => ?_)
  · ((conv=>whnf);repeat((first|refine Ct ‹_› ?_|refine Cf ‹_› ?_|refine Ct rfl ?_|refine Cf rfl ?_|refine Bi rfl ?_|refine Bz rfl ?_|refine Lr ?_);conv=>whnf))
    refine ⟨n - 1, d + 1, c, L, ?_, by omega, by omega, by omega, hsw.skip ((.inr (by rw [avP, g3]; rfl)))⟩
    rw [wrapI (by omega)]; rfl
  have e3 : avP av (nx b.m x d) (bCo b k w x d) = true := by rw [avP, g3]; rfl
  have bd1 := hsw.r.bound (by omega) x.toNat (by omega)
  have bd2 := hsw.r.bound (by omega) (nx b.m x d).toNat (by omega)
  have lw1 := hsw.r.low x.toNat (by omega)
  have lw2 := hsw.r.low (nx b.m x d).toNat (by omega)
  ((conv=>whnf);repeat((first|refine Ct ‹_› ?_|refine Cf ‹_› ?_|refine Ct rfl ?_|refine Cf rfl ?_|refine Bi rfl ?_|refine Bz rfl ?_|refine Lr ?_);conv=>whnf))
  refine Cnd_i (fun g4 => ?_) (fun g4 => ?_)
  · subst g4
    have hj := hnx
    have hk := hx
    ((conv=>whnf);repeat((first|refine Ct ‹_› ?_|refine Cf ‹_› ?_|refine Ct rfl ?_|refine Cf rfl ?_|refine Bi rfl ?_|refine Bz rfl ?_|refine Lr ?_);conv=>whnf))
    refine Bnd_i (⟨hj.1, hj.2⟩) ?_; ((conv=>whnf);repeat((first|refine Ct ‹_› ?_|refine Cf ‹_› ?_|refine Ct rfl ?_|refine Cf rfl ?_|refine Bi rfl ?_|refine Bz rfl ?_|refine Lr ?_);conv=>whnf))
    refine Cnd_i (fun g5 => ?_) (fun g5 => ?_)
    · have d5 := of_decide_eq_true g5
      ((conv=>whnf);repeat((first|refine Ct ‹_› ?_|refine Cf ‹_› ?_|refine Ct rfl ?_|refine Cf rfl ?_|refine Bi rfl ?_|refine Bz rfl ?_|refine Lr ?_);conv=>whnf))
      refine Bnd_i (⟨hk.1, hk.2⟩) ?_; ((conv=>whnf);repeat((first|refine Ct ‹_› ?_|refine Cf ‹_› ?_|refine Ct rfl ?_|refine Cf rfl ?_|refine Bi rfl ?_|refine Bz rfl ?_|refine Lr ?_);conv=>whnf))
      refine Cnd_i (fun g6 => ?_) (fun g6 => ?_)
      · have d6 := of_decide_eq_true g6
        ((conv=>whnf);repeat((first|refine Ct ‹_› ?_|refine Cf ‹_› ?_|refine Ct rfl ?_|refine Cf rfl ?_|refine Bi rfl ?_|refine Bz rfl ?_|refine Lr ?_);conv=>whnf))
        refine Bnd_i (⟨hj.1, hj.2⟩) ?_; ((conv=>whnf);repeat((first|refine Ct ‹_› ?_|refine Cf ‹_› ?_|refine Ct rfl ?_|refine Cf rfl ?_|refine Bi rfl ?_|refine Bz rfl ?_|refine Lr ?_);conv=>whnf))
        refine Bnd_i (⟨hk.1, hk.2⟩) ?_; ((conv=>whnf);repeat((first|refine Ct ‹_› ?_|refine Cf ‹_› ?_|refine Ct rfl ?_|refine Cf rfl ?_|refine Bi rfl ?_|refine Bz rfl ?_|refine Lr ?_);conv=>whnf))
        refine Rw_i (rwIn b.m.ter.length (L.set (x).toNat (L.getD (nx b.m x d).toNat 0 + stepC b k x d w))) (by rw [wrapI (by omega)]; exact rwIn_set _ _ _ _ (by rw [hlen]; omega)) ?_
        ((conv=>whnf);repeat((first|refine Ct ‹_› ?_|refine Cf ‹_› ?_|refine Ct rfl ?_|refine Cf rfl ?_|refine Bi rfl ?_|refine Bz rfl ?_|refine Lr ?_);conv=>whnf))
        have hsy := hsw.yes (j := nx b.m x d) (k := x) he (Int.le_refl 0) i0 hM hx ⟨h1, by omega⟩ e2 e3 rfl rfl d5 (.inl d6)
        refine ⟨n - 1, d + 1, true, L.set (x).toNat (L.getD (nx b.m x d).toNat 0 + stepC b k x d w), ?_, by omega, by omega, by omega, hsy⟩
        rw [wrapI (by omega)]; rfl
      · have d6 := of_decide_eq_false g6
        ((conv=>whnf);repeat((first|refine Ct ‹_› ?_|refine Cf ‹_› ?_|refine Ct rfl ?_|refine Cf rfl ?_|refine Bi rfl ?_|refine Bz rfl ?_|refine Lr ?_);conv=>whnf))
        refine Bnd_i (⟨hj.1, hj.2⟩) ?_; ((conv=>whnf);repeat((first|refine Ct ‹_› ?_|refine Cf ‹_› ?_|refine Ct rfl ?_|refine Cf rfl ?_|refine Bi rfl ?_|refine Bz rfl ?_|refine Lr ?_);conv=>whnf))
        refine Bnd_i (⟨hk.1, hk.2⟩) ?_; ((conv=>whnf);repeat((first|refine Ct ‹_› ?_|refine Cf ‹_› ?_|refine Ct rfl ?_|refine Cf rfl ?_|refine Bi rfl ?_|refine Bz rfl ?_|refine Lr ?_);conv=>whnf))
        refine Cnd_e (c' := decide (L.getD (nx b.m x d).toNat 0 + stepC b k x d w < L.getD (x).toNat 0)) (by rw [wrapI (by omega)]) ?_
        refine Cnd_i (fun g7 => ?_) (fun g7 => ?_)
        · have d7 := of_decide_eq_true g7
          ((conv=>whnf);repeat((first|refine Ct ‹_› ?_|refine Cf ‹_› ?_|refine Ct rfl ?_|refine Cf rfl ?_|refine Bi rfl ?_|refine Bz rfl ?_|refine Lr ?_);conv=>whnf))
          refine Bnd_i (⟨hj.1, hj.2⟩) ?_; ((conv=>whnf);repeat((first|refine Ct ‹_› ?_|refine Cf ‹_› ?_|refine Ct rfl ?_|refine Cf rfl ?_|refine Bi rfl ?_|refine Bz rfl ?_|refine Lr ?_);conv=>whnf))
          refine Bnd_i (⟨hk.1, hk.2⟩) ?_; ((conv=>whnf);repeat((first|refine Ct ‹_› ?_|refine Cf ‹_› ?_|refine Ct rfl ?_|refine Cf rfl ?_|refine Bi rfl ?_|refine Bz rfl ?_|refine Lr ?_);conv=>whnf))
          refine Rw_i (rwIn b.m.ter.length (L.set (x).toNat (L.getD (nx b.m x d).toNat 0 + stepC b k x d w))) (by rw [wrapI (by omega)]; exact rwIn_set _ _ _ _ (by rw [hlen]; omega)) ?_
          ((conv=>whnf);repeat((first|refine Ct ‹_› ?_|refine Cf ‹_› ?_|refine Ct rfl ?_|refine Cf rfl ?_|refine Bi rfl ?_|refine Bz rfl ?_|refine Lr ?_);conv=>whnf))
          have hsy := hsw.yes (j := nx b.m x d) (k := x) he (Int.le_refl 0) i0 hM hx ⟨h1, by omega⟩ e2 e3 rfl rfl d5 (.inr d7)
          refine ⟨n - 1, d + 1, true, L.set (x).toNat (L.getD (nx b.m x d).toNat 0 + stepC b k x d w), ?_, by omega, by omega, by omega, hsy⟩
          rw [wrapI (by omega)]; rfl
        · have d7 := of_decide_eq_false g7
          ((conv=>whnf);repeat((first|refine Ct ‹_› ?_|refine Cf ‹_› ?_|refine Ct rfl ?_|refine Cf rfl ?_|refine Bi rfl ?_|refine Bz rfl ?_|refine Lr ?_);conv=>whnf))
          refine ⟨n - 1, d + 1, c, L, ?_, by omega, by omega, by omega, hsw.no (fun h0 => ?_)⟩
          · rw [wrapI (by omega)]; rfl
          · exact ⟨by show 0 ≤ L.getD (x).toNat 0; omega, by show L.getD (x).toNat 0 ≤ L.getD (nx b.m x d).toNat 0 + stepC b k x d w; omega⟩
    · have d5 := of_decide_eq_false g5
      ((conv=>whnf);repeat((first|refine Ct ‹_› ?_|refine Cf ‹_› ?_|refine Ct rfl ?_|refine Cf rfl ?_|refine Bi rfl ?_|refine Bz rfl ?_|refine Lr ?_);conv=>whnf))
      refine ⟨n - 1, d + 1, c, L, ?_, by omega, by omega, by omega, hsw.no (fun h0 => ?_)⟩
      · rw [wrapI (by omega)]; rfl
      · exact absurd h0 d5
  · subst g4
    have hj := hx
    have hk := hnx
    ((conv=>whnf);repeat((first|refine Ct ‹_› ?_|refine Cf ‹_› ?_|refine Ct rfl ?_|refine Cf rfl ?_|refine Bi rfl ?_|refine Bz rfl ?_|refine Lr ?_);conv=>whnf))
    refine Bnd_i (⟨hj.1, hj.2⟩) ?_; ((conv=>whnf);repeat((first|refine Ct ‹_› ?_|refine Cf ‹_› ?_|refine Ct rfl ?_|refine Cf rfl ?_|refine Bi rfl ?_|refine Bz rfl ?_|refine Lr ?_);conv=>whnf))
    refine Cnd_i (fun g5 => ?_) (fun g5 => ?_)
    · have d5 := of_decide_eq_true g5
      ((conv=>whnf);repeat((first|refine Ct ‹_› ?_|refine Cf ‹_› ?_|refine Ct rfl ?_|refine Cf rfl ?_|refine Bi rfl ?_|refine Bz rfl ?_|refine Lr ?_);conv=>whnf))
      refine Bnd_i (⟨hk.1, hk.2⟩) ?_; ((conv=>whnf);repeat((first|refine Ct ‹_› ?_|refine Cf ‹_› ?_|refine Ct rfl ?_|refine Cf rfl ?_|refine Bi rfl ?_|refine Bz rfl ?_|refine Lr ?_);conv=>whnf))
      refine Cnd_i (fun g6 => ?_) (fun g6 => ?_)
      · have d6 := of_decide_eq_true g6
        ((conv=>whnf);repeat((first|refine Ct ‹_› ?_|refine Cf ‹_› ?_|refine Ct rfl ?_|refine Cf rfl ?_|refine Bi rfl ?_|refine Bz rfl ?_|refine Lr ?_);conv=>whnf))
        refine Bnd_i (⟨hj.1, hj.2⟩) ?_; ((conv=>whnf);repeat((first|refine Ct ‹_› ?_|refine Cf ‹_› ?_|refine Ct rfl ?_|refine Cf rfl ?_|refine Bi rfl ?_|refine Bz rfl ?_|refine Lr ?_);conv=>whnf))
        refine Bnd_i (⟨hk.1, hk.2⟩) ?_; ((conv=>whnf);repeat((first|refine Ct ‹_› ?_|refine Cf ‹_› ?_|refine Ct rfl ?_|refine Cf rfl ?_|refine Bi rfl ?_|refine Bz rfl ?_|refine Lr ?_);conv=>whnf))
        refine Rw_i (rwIn b.m.ter.length (L.set (nx b.m x d).toNat (L.getD (x).toNat 0 + stepC b k x d w))) (by rw [wrapI (by omega)]; exact rwIn_set _ _ _ _ (by rw [hlen]; omega)) ?_
        ((conv=>whnf);repeat((first|refine Ct ‹_› ?_|refine Cf ‹_› ?_|refine Ct rfl ?_|refine Cf rfl ?_|refine Bi rfl ?_|refine Bz rfl ?_|refine Lr ?_);conv=>whnf))
        have hsy := hsw.yes (j := x) (k := nx b.m x d) he (Int.le_refl 0) i0 hM hx ⟨h1, by omega⟩ e2 e3 rfl rfl d5 (.inl d6)
        refine ⟨n - 1, d + 1, true, L.set (nx b.m x d).toNat (L.getD (x).toNat 0 + stepC b k x d w), ?_, by omega, by omega, by omega, hsy⟩
        rw [wrapI (by omega)]; rfl
      · have d6 := of_decide_eq_false g6
        ((conv=>whnf);repeat((first|refine Ct ‹_› ?_|refine Cf ‹_› ?_|refine Ct rfl ?_|refine Cf rfl ?_|refine Bi rfl ?_|refine Bz rfl ?_|refine Lr ?_);conv=>whnf))
        refine Bnd_i (⟨hj.1, hj.2⟩) ?_; ((conv=>whnf);repeat((first|refine Ct ‹_› ?_|refine Cf ‹_› ?_|refine Ct rfl ?_|refine Cf rfl ?_|refine Bi rfl ?_|refine Bz rfl ?_|refine Lr ?_);conv=>whnf))
        refine Bnd_i (⟨hk.1, hk.2⟩) ?_; ((conv=>whnf);repeat((first|refine Ct ‹_› ?_|refine Cf ‹_› ?_|refine Ct rfl ?_|refine Cf rfl ?_|refine Bi rfl ?_|refine Bz rfl ?_|refine Lr ?_);conv=>whnf))
        refine Cnd_e (c' := decide (L.getD (x).toNat 0 + stepC b k x d w < L.getD (nx b.m x d).toNat 0)) (by rw [wrapI (by omega)]) ?_
        refine Cnd_i (fun g7 => ?_) (fun g7 => ?_)
        · have d7 := of_decide_eq_true g7
          ((conv=>whnf);repeat((first|refine Ct ‹_› ?_|refine Cf ‹_› ?_|refine Ct rfl ?_|refine Cf rfl ?_|refine Bi rfl ?_|refine Bz rfl ?_|refine Lr ?_);conv=>whnf))
          refine Bnd_i (⟨hj.1, hj.2⟩) ?_; ((conv=>whnf);repeat((first|refine Ct ‹_› ?_|refine Cf ‹_› ?_|refine Ct rfl ?_|refine Cf rfl ?_|refine Bi rfl ?_|refine Bz rfl ?_|refine Lr ?_);conv=>whnf))
          refine Bnd_i (⟨hk.1, hk.2⟩) ?_; ((conv=>whnf);repeat((first|refine Ct ‹_› ?_|refine Cf ‹_› ?_|refine Ct rfl ?_|refine Cf rfl ?_|refine Bi rfl ?_|refine Bz rfl ?_|refine Lr ?_);conv=>whnf))
          refine Rw_i (rwIn b.m.ter.length (L.set (nx b.m x d).toNat (L.getD (x).toNat 0 + stepC b k x d w))) (by rw [wrapI (by omega)]; exact rwIn_set _ _ _ _ (by rw [hlen]; omega)) ?_
          ((conv=>whnf);repeat((first|refine Ct ‹_› ?_|refine Cf ‹_› ?_|refine Ct rfl ?_|refine Cf rfl ?_|refine Bi rfl ?_|refine Bz rfl ?_|refine Lr ?_);conv=>whnf))
          have hsy := hsw.yes (j := x) (k := nx b.m x d) he (Int.le_refl 0) i0 hM hx ⟨h1, by omega⟩ e2 e3 rfl rfl d5 (.inr d7)
          refine ⟨n - 1, d + 1, true, L.set (nx b.m x d).toNat (L.getD (x).toNat 0 + stepC b k x d w), ?_, by omega, by omega, by omega, hsy⟩
          rw [wrapI (by omega)]; rfl
        · have d7 := of_decide_eq_false g7
          ((conv=>whnf);repeat((first|refine Ct ‹_› ?_|refine Cf ‹_› ?_|refine Ct rfl ?_|refine Cf rfl ?_|refine Bi rfl ?_|refine Bz rfl ?_|refine Lr ?_);conv=>whnf))
          refine ⟨n - 1, d + 1, c, L, ?_, by omega, by omega, by omega, hsw.no (fun h0 => ?_)⟩
          · rw [wrapI (by omega)]; rfl
          · exact ⟨by show 0 ≤ L.getD (nx b.m x d).toNat 0; omega, by show L.getD (nx b.m x d).toNat 0 ≤ L.getD (x).toNat 0 + stepC b k x d w; omega⟩
    · have d5 := of_decide_eq_false g5
      ((conv=>whnf);repeat((first|refine Ct ‹_› ?_|refine Cf ‹_› ?_|refine Ct rfl ?_|refine Cf rfl ?_|refine Bi rfl ?_|refine Bz rfl ?_|refine Lr ?_);conv=>whnf))
      refine ⟨n - 1, d + 1, c, L, ?_, by omega, by omega, by omega, hsw.no (fun h0 => ?_)⟩
      · rw [wrapI (by omega)]; rfl
      · exact absurd h0 d5

theorem F_mSizeB (b : Brd) (h : GB b) : Fun E0 32 [.agg b.m.cs] [] (.v (vI b.m.ter.length)) [] [] := by
  rw [h.n]; exact F_mSize b.m h.wh

theorem F_pFrom (b : Brd) (h : GB b) (k w i : Int) (av : List Int) (k0 : 0 ≤ k ∧ k < b.r.knd.length) (w0 : 0 ≤ w ∧ w ≤ 2) (i0 : 0 ≤ i ∧ i < b.m.ter.length) (hav : av.length ≤ maxLen) :
    Fun E0 12 [.agg b.cs, vI k, vI w, vI i, .one (roI av)] [] (.v (.one (.own 0 (dL b k w i av false).length))) [(0, rwI (dL b k w i av false))] [] := by
  have hm := h.wh.mul
  have hn := h.n
  have he := eok_s h k0 w0 av false
  refine Fun_of_xc k12 rfl rfl (nrC (rwI_no _) nrN) ?_
  ((conv=>whnf);repeat((first|refine Ct ‹_› ?_|refine Cf ‹_› ?_|refine Ct rfl ?_|refine Cf rfl ?_|refine Bi rfl ?_|refine Bz rfl ?_|refine Lr ?_);conv=>whnf))
  refine Rw_i (rwI []) (rwI_nil _) ?_
  ((conv=>whnf);repeat((first|refine Ct ‹_› ?_|refine Cf ‹_› ?_|refine Ct rfl ?_|refine Cf rfl ?_|refine Bi rfl ?_|refine Bz rfl ?_|refine Lr ?_);conv=>whnf))
  (refine CallQ_some (F_mSizeB b h) ?_ ?_ ?_; rfl; rfl); ((conv=>whnf);repeat((first|refine Ct ‹_› ?_|refine Cf ‹_› ?_|refine Ct rfl ?_|refine Cf rfl ?_|refine Bi rfl ?_|refine Bz rfl ?_|refine Lr ?_);conv=>whnf))
  refine Bnd_i (by omega) ?_
  ((conv=>whnf);repeat((first|refine Ct ‹_› ?_|refine Cf ‹_› ?_|refine Ct rfl ?_|refine Cf rfl ?_|refine Bi rfl ?_|refine Bz rfl ?_|refine Lr ?_);conv=>whnf))
  refine Rw_i (rwIn b.m.ter.length (List.replicate b.m.ter.length 0)) (rwIn_zero _) ?_
  ((conv=>whnf);repeat((first|refine Ct ‹_› ?_|refine Cf ‹_› ?_|refine Ct rfl ?_|refine Cf rfl ?_|refine Bi rfl ?_|refine Bz rfl ?_|refine Lr ?_);conv=>whnf))
  refine Bnd_i (by have : (rwIn b.m.ter.length (List.replicate b.m.ter.length 0)).n = b.m.ter.length := rfl; omega) ?_
  ((conv=>whnf);repeat((first|refine Ct ‹_› ?_|refine Cf ‹_› ?_|refine Ct rfl ?_|refine Cf rfl ?_|refine Bi rfl ?_|refine Bz rfl ?_|refine Lr ?_);conv=>whnf))
  refine Rw_i (rwBn b.m.ter.length (List.replicate b.m.ter.length false)) (rwBn_zero _) ?_
  ((conv=>whnf);repeat((first|refine Ct ‹_› ?_|refine Cf ‹_› ?_|refine Ct rfl ?_|refine Cf rfl ?_|refine Bi rfl ?_|refine Bz rfl ?_|refine Lr ?_);conv=>whnf))
  refine WLoop_v2 ⟨[1, 2, 3, 4, 5, 11, 12, 29, 30], [5], []⟩ (fun (t : Int) (L : List Int) => hdS 122 [(1, .v (vI k)), (2, .v (vI w)), (3, .v (vI i)), (4, .v (.one (roI av))), (5, .v (.one (.box 5 0))), (11, .v (.one (.own (vkey 11) b.m.ter.length))), (12, .v (.one (.own (vkey 12) b.m.ter.length))), (29, .v (vI b.m.ter.length)), (30, .v (vI t))] [(5, b.cs)] [(vkey 11, rwIn b.m.ter.length L), (vkey 12, rwBn b.m.ter.length (List.replicate b.m.ter.length false))])
    (fun n t L => 0 ≤ t ∧ t + n = b.m.ter.length ∧ L.length = b.m.ter.length ∧ ∀ j : Nat, (j : Int) < t → L.getD j 0 = -1) b.m.ter.length 0 (List.replicate b.m.ter.length 0) rfl ⟨by omega, by omega, by simp, fun j hj => by omega⟩ ?_
  rintro n t L ⟨h1, h2, hlen, h3⟩
  ((conv=>whnf);repeat((first|refine Ct ‹_› ?_|refine Cf ‹_› ?_|refine Ct rfl ?_|refine Cf rfl ?_|refine Bi rfl ?_|refine Bz rfl ?_|refine Lr ?_);conv=>whnf))
  refine Cnd_i (fun g => ?_) (fun g => ?_)
  · have ht := of_decide_eq_true g
    ((conv=>whnf);repeat((first|refine Ct ‹_› ?_|refine Cf ‹_› ?_|refine Ct rfl ?_|refine Cf rfl ?_|refine Bi rfl ?_|refine Bz rfl ?_|refine Lr ?_);conv=>whnf))
    refine Bnd_i (⟨h1, ht⟩) ?_; ((conv=>whnf);repeat((first|refine Ct ‹_› ?_|refine Cf ‹_› ?_|refine Ct rfl ?_|refine Cf rfl ?_|refine Bi rfl ?_|refine Bz rfl ?_|refine Lr ?_);conv=>whnf))
    refine Rw_i (rwIn b.m.ter.length (L.set t.toNat (-1))) (rwIn_set _ _ _ _ (by omega)) ?_
    ((conv=>whnf);repeat((first|refine Ct ‹_› ?_|refine Cf ‹_› ?_|refine Ct rfl ?_|refine Cf rfl ?_|refine Bi rfl ?_|refine Bz rfl ?_|refine Lr ?_);conv=>whnf))
    refine ⟨n - 1, t + 1, L.set t.toNat (-1), ?_, by omega, by omega, by omega, by simp [hlen], fun j hj => ?_⟩
    · rw [wrapI (by omega)]; rfl
    · rw [getD_set _ _ _ _ (by omega)]
      split
      · rfl
      · exact h3 j (by omega)
  have ht := of_decide_eq_false g
  have hL := all_neg1 hlen (fun j hj => h3 j (by omega))
  subst hL
  clear h1 h2 h3 hlen g ht
  ((conv=>whnf);repeat((first|refine Ct ‹_› ?_|refine Cf ‹_› ?_|refine Ct rfl ?_|refine Cf rfl ?_|refine Bi rfl ?_|refine Bz rfl ?_|refine Lr ?_);conv=>whnf))
  refine Bnd_i (⟨i0.1, i0.2⟩) ?_; ((conv=>whnf);repeat((first|refine Ct ‹_› ?_|refine Cf ‹_› ?_|refine Ct rfl ?_|refine Cf rfl ?_|refine Bi rfl ?_|refine Bz rfl ?_|refine Lr ?_);conv=>whnf))
  refine Rw_i (rwIn b.m.ter.length ((List.replicate b.m.ter.length (-1)).set i.toNat 0)) (rwIn_set _ _ _ _ (by simp; omega)) ?_
  ((conv=>whnf);repeat((first|refine Ct ‹_› ?_|refine Cf ‹_› ?_|refine Ct rfl ?_|refine Cf rfl ?_|refine Bi rfl ?_|refine Bz rfl ?_|refine Lr ?_);conv=>whnf))
  have hin : Rlx b.m.ter.length sumF (bEg b k w av false) 0 20 i ((List.replicate b.m.ter.length (-1)).set i.toNat 0) := Rlx.init (by omega) (Int.le_refl 0) i0
  refine WLoop_v2 ⟨[1, 2, 4, 5, 11, 12], [5], []⟩ (fun (L : List Int) (D : List Bool) => hdS 122 [(1, .v (vI k)), (2, .v (vI w)), (4, .v (.one (roI av))), (5, .v (.one (.box 5 0))), (11, .v (.one (.own (vkey 11) b.m.ter.length))), (12, .v (.one (.own (vkey 12) b.m.ter.length)))] [(5, b.cs)] [(vkey 11, rwIn b.m.ter.length L), (vkey 12, rwBn b.m.ter.length D)])
    (fun n L D => n = cntF D ∧ Djk b.m.ter.length sumF (bCo b k w) (nx b.m) (avP av) 0 20 i L D) _ _ _ rfl ⟨rfl, Djk.init hin⟩ ?_
  clear hin
  rintro n0 L0 D0 ⟨hn0, hdj⟩
  have hlen := hdj.r.len
  have hlD := hdj.len
  ((conv=>whnf);repeat((first|refine Ct ‹_› ?_|refine Cf ‹_› ?_|refine Ct rfl ?_|refine Cf rfl ?_|refine Bi rfl ?_|refine Bz rfl ?_|refine Lr ?_);conv=>whnf))
  refine WLoop_v2 ⟨[1, 2, 4, 5, 11, 12, 14, 41, 42], [5], [(40, 11)]⟩ (fun (y t : Int) => hdS 122 [(1, .v (vI k)), (2, .v (vI w)), (4, .v (.one (roI av))), (5, .v (.one (.box 5 0))), (11, .v (.one (.own (vkey 11) b.m.ter.length))), (12, .v (.one (.own (vkey 12) b.m.ter.length))), (14, .v (vI y)), (40, .v (.one (.own (vkey 11) b.m.ter.length))), (41, .v (vI b.m.ter.length)), (42, .v (vI t))] [(5, b.cs)] [(vkey 11, rwIn b.m.ter.length L0), (vkey 12, rwBn b.m.ter.length D0)])
    (fun n y t => 0 ≤ t ∧ t + n = b.m.ter.length ∧ bestI L0 D0 y t) b.m.ter.length (-1) 0 rfl ⟨by omega, by omega, .inl ⟨rfl, fun j hj => by omega⟩⟩ ?_
  rintro n y t ⟨h1, h2, h3⟩
  ((conv=>whnf);repeat((first|refine Ct ‹_› ?_|refine Cf ‹_› ?_|refine Ct rfl ?_|refine Cf rfl ?_|refine Bi rfl ?_|refine Bz rfl ?_|refine Lr ?_);conv=>whnf))
  refine Cnd_i (fun g => ?_) (fun g => ?_)
  · have ht := of_decide_eq_true g
    have hy := h3.b
    ((conv=>whnf);repeat((first|refine Ct ‹_› ?_|refine Cf ‹_› ?_|refine Ct rfl ?_|refine Cf rfl ?_|refine Bi rfl ?_|refine Bz rfl ?_|refine Lr ?_);conv=>whnf))
    refine Bnd_i (⟨h1, ht⟩) ?_; ((conv=>whnf);repeat((first|refine Ct ‹_› ?_|refine Cf ‹_› ?_|refine Ct rfl ?_|refine Cf rfl ?_|refine Bi rfl ?_|refine Bz rfl ?_|refine Lr ?_);conv=>whnf))
    refine Cnd_i (fun g2 => ?_) (fun g2 => ?_)
    · have d2 := of_decide_eq_true g2
      ((conv=>whnf);repeat((first|refine Ct ‹_› ?_|refine Cf ‹_› ?_|refine Ct rfl ?_|refine Cf rfl ?_|refine Bi rfl ?_|refine Bz rfl ?_|refine Lr ?_);conv=>whnf))
      refine Bnd_i (⟨h1, ht⟩) ?_; ((conv=>whnf);repeat((first|refine Ct ‹_› ?_|refine Cf ‹_› ?_|refine Ct rfl ?_|refine Cf rfl ?_|refine Bi rfl ?_|refine Bz rfl ?_|refine Lr ?_);conv=>whnf))
      refine Cnd_i (fun g3 => ?_) (fun g3 => ?_)
      · have d3 : D0.getD t.toNat false = false := by simpa using g3
        ((conv=>whnf);repeat((first|refine Ct ‹_› ?_|refine Cf ‹_› ?_|refine Ct rfl ?_|refine Cf rfl ?_|refine Bi rfl ?_|refine Bz rfl ?_|refine Lr ?_);conv=>whnf))
        refine Cnd_i (fun g4 => ?_) (fun g4 => ?_)
        · have d4 := of_decide_eq_true g4
          ((conv=>whnf);repeat((first|refine Ct ‹_› ?_|refine Cf ‹_› ?_|refine Ct rfl ?_|refine Cf rfl ?_|refine Bi rfl ?_|refine Bz rfl ?_|refine Lr ?_);conv=>whnf))
          refine ⟨n - 1, t, t + 1, ?_, by omega, by omega, by omega, h3.take h1 d3 d2 (.inl d4)⟩
          rw [wrapI (by omega)]; rfl
        · have d4 := of_decide_eq_false g4
          ((conv=>whnf);repeat((first|refine Ct ‹_› ?_|refine Cf ‹_› ?_|refine Ct rfl ?_|refine Cf rfl ?_|refine Bi rfl ?_|refine Bz rfl ?_|refine Lr ?_);conv=>whnf))
          refine Bnd_i (⟨by omega, by omega⟩) ?_; ((conv=>whnf);repeat((first|refine Ct ‹_› ?_|refine Cf ‹_› ?_|refine Ct rfl ?_|refine Cf rfl ?_|refine Bi rfl ?_|refine Bz rfl ?_|refine Lr ?_);conv=>whnf))
          refine Cnd_i (fun g5 => ?_) (fun g5 => ?_)
          · have d5 := of_decide_eq_true g5
            ((conv=>whnf);repeat((first|refine Ct ‹_› ?_|refine Cf ‹_› ?_|refine Ct rfl ?_|refine Cf rfl ?_|refine Bi rfl ?_|refine Bz rfl ?_|refine Lr ?_);conv=>whnf))
            refine ⟨n - 1, t, t + 1, ?_, by omega, by omega, by omega, h3.take h1 d3 d2 (.inr d5)⟩
            rw [wrapI (by omega)]; rfl
          · have d5 := of_decide_eq_false g5
            ((conv=>whnf);repeat((first|refine Ct ‹_› ?_|refine Cf ‹_› ?_|refine Ct rfl ?_|refine Cf rfl ?_|refine Bi rfl ?_|refine Bz rfl ?_|refine Lr ?_);conv=>whnf))
            refine ⟨n - 1, y, t + 1, ?_, by omega, by omega, by omega, h3.keep (fun _ _ => ⟨by omega, by omega⟩)⟩
            rw [wrapI (by omega)]; rfl
      · have d3 : D0.getD t.toNat false = true := by simpa using g3
        ((conv=>whnf);repeat((first|refine Ct ‹_› ?_|refine Cf ‹_› ?_|refine Ct rfl ?_|refine Cf rfl ?_|refine Bi rfl ?_|refine Bz rfl ?_|refine Lr ?_);conv=>whnf))
        refine ⟨n - 1, y, t + 1, ?_, by omega, by omega, by omega, h3.keep (fun hh _ => by rw [d3] at hh; cases hh)⟩
        rw [wrapI (by omega)]; rfl
    · have d2 := of_decide_eq_false g2
      ((conv=>whnf);repeat((first|refine Ct ‹_› ?_|refine Cf ‹_› ?_|refine Ct rfl ?_|refine Cf rfl ?_|refine Bi rfl ?_|refine Bz rfl ?_|refine Lr ?_);conv=>whnf))
      refine ⟨n - 1, y, t + 1, ?_, by omega, by omega, by omega, h3.keep (fun _ hh => by omega)⟩
      rw [wrapI (by omega)]; rfl
  have ht := of_decide_eq_false g
  obtain rfl : t = b.m.ter.length := by omega
  ((conv=>whnf);repeat((first|refine Ct ‹_› ?_|refine Cf ‹_› ?_|refine Ct rfl ?_|refine Cf rfl ?_|refine Bi rfl ?_|refine Bz rfl ?_|refine Lr ?_);conv=>whnf))
  refine Cnd_i (fun g2 => ?_) (fun g2 => ?_)
  · have d2 := of_decide_eq_true g2
    ((conv=>whnf);repeat((first|refine Ct ‹_› ?_|refine Cf ‹_› ?_|refine Ct rfl ?_|refine Cf rfl ?_|refine Bi rfl ?_|refine Bz rfl ?_|refine Lr ?_);conv=>whnf))
    have hd : DstB b k w i av false L0 := hdj.fin he (Int.le_refl 0) i0 (fun j hj hD => by
      rcases h3 with h3 | h3
      · have := h3.2 j (by omega) hD; omega
      · omega)
    have e1 : dL b k w i av false = L0 := hd.eq.symm
    rw [e1, rwIn_eq hd.len, hd.len]
    exact ⟨rfl, rfl, rfl⟩
  have d2 := of_decide_eq_false g2
  rcases h3 with h3 | ⟨y1, y2, y3, y4⟩
  · omega
  have hdb := hdj.pick ⟨y1, y2⟩ y3 y4.1 (fun j hj hD hp => y4.2 j (by omega) hD hp)
  have hcnt := cntF_set D0 y.toNat (by omega) y3
  have hlD' : (D0.set y.toNat true).length = b.m.ter.length := by rw [List.length_set]; exact hlD
  ((conv=>whnf);repeat((first|refine Ct ‹_› ?_|refine Cf ‹_› ?_|refine Ct rfl ?_|refine Cf rfl ?_|refine Bi rfl ?_|refine Bz rfl ?_|refine Lr ?_);conv=>whnf))
  refine Bnd_i (⟨y1, y2⟩) ?_; ((conv=>whnf);repeat((first|refine Ct ‹_› ?_|refine Cf ‹_› ?_|refine Ct rfl ?_|refine Cf rfl ?_|refine Bi rfl ?_|refine Bz rfl ?_|refine Lr ?_);conv=>whnf))
  refine Rw_i (rwBn b.m.ter.length (D0.set y.toNat true)) (rwBn_set _ _ _ _ (by omega)) ?_
  ((conv=>whnf);repeat((first|refine Ct ‹_› ?_|refine Cf ‹_› ?_|refine Ct rfl ?_|refine Cf rfl ?_|refine Bi rfl ?_|refine Bz rfl ?_|refine Lr ?_);conv=>whnf))
  generalize D0.set y.toNat true = D at hdb hcnt hlD' ⊢
  clear y3 y4 hdj
  refine WLoop_v2 ⟨[1, 2, 4, 5, 11, 12, 14, 17], [5], []⟩ (fun (d : Int) (L : List Int) => hdS 122 [(1, .v (vI k)), (2, .v (vI w)), (4, .v (.one (roI av))), (5, .v (.one (.box 5 0))), (11, .v (.one (.own (vkey 11) b.m.ter.length))), (12, .v (.one (.own (vkey 12) b.m.ter.length))), (14, .v (vI y)), (17, .v (vI d))] [(5, b.cs)] [(vkey 11, rwIn b.m.ter.length L), (vkey 12, rwBn b.m.ter.length D)])
    (fun n d L => 0 ≤ d ∧ d + n = 6 ∧ Djb b.m.ter.length sumF (bCo b k w) (nx b.m) (avP av) 0 20 i y d L D) 6 0 L0 rfl ⟨by omega, by omega, hdb⟩ ?_
  clear hdb hlen
  rintro n d L ⟨h1, h2, hdb⟩
  have hlen := hdb.r.len
  ((conv=>whnf);repeat((first|refine Ct ‹_› ?_|refine Cf ‹_› ?_|refine Ct rfl ?_|refine Cf rfl ?_|refine Bi rfl ?_|refine Bz rfl ?_|refine Lr ?_);conv=>whnf))
  refine Cnd_i (fun g => ?_) (fun g => ?_)
  rotate_left
  · have hd := of_decide_eq_false g
    ((conv=>whnf);repeat((first|refine Ct ‹_› ?_|refine Cf ‹_› ?_|refine Ct rfl ?_|refine Cf rfl ?_|refine Bi rfl ?_|refine Bz rfl ?_|refine Lr ?_);conv=>whnf))
    obtain rfl : d = 6 := by omega
    exact ⟨cntF D, L, D, rfl, by omega, rfl, hdb.fin⟩
  have hd := of_decide_eq_true g
  have hsb := stepC_b h (i := y) (d := d) k0 w0
  ((conv=>whnf);repeat((first|refine Ct ‹_› ?_|refine Cf ‹_› ?_|refine Ct rfl ?_|refine Cf rfl ?_|refine Bi rfl ?_|refine Bz rfl ?_|refine Lr ?_);conv=>whnf))
  (refine CallQ_some (F_cStep b h k y d w k0.1 k0.2 y1 y2 h1 (by omega) w0.1 w0.2) ?_ ?_ ?_; rfl; rfl); ((conv=>whnf);repeat((first|refine Ct ‹_› ?_|refine Cf ‹_› ?_|refine Ct rfl ?_|refine Cf rfl ?_|refine Bi rfl ?_|refine Bz rfl ?_|refine Lr ?_);conv=>whnf))
  refine Cnd_i (fun g2 => ?_) (fun g2 => ?_)
  · have e2 : stepC b k y d w = 0 := by simpa using g2
    ((conv=>whnf);repeat((first|refine Ct ‹_› ?_|refine Cf ‹_› ?_|refine Ct rfl ?_|refine Cf rfl ?_|refine Bi rfl ?_|refine Bz rfl ?_|refine Lr ?_);conv=>whnf))
    refine ⟨n - 1, d + 1, L, ?_, by omega, by omega, by omega, hdb.skip (.inl e2)⟩
    rw [wrapI (by omega)]; rfl
  have e2 : stepC b k y d w ≠ 0 := by simpa using g2
  have hnx := hsb.2.2 e2
  have bd1 := hdb.r.bound (by omega) y.toNat (by omega)
  have lw1 := hdb.r.low y.toNat (by omega)
  have hy0 := (hdb.dn y.toNat (by omega) hdb.db).1
  ((conv=>whnf);repeat((first|refine Ct ‹_› ?_|refine Cf ‹_› ?_|refine Ct rfl ?_|refine Cf rfl ?_|refine Bi rfl ?_|refine Bz rfl ?_|refine Lr ?_);conv=>whnf))
  (refine CallQ_some (F_mNext b.m h.wh y d y1 (by omega) h1 (by omega)) ?_ ?_ ?_; rfl; rfl); ((conv=>whnf);repeat((first|refine Ct ‹_› ?_|refine Cf ‹_› ?_|refine Ct rfl ?_|refine Cf rfl ?_|refine Bi rfl ?_|refine Bz rfl ?_|refine Lr ?_);conv=>whnf))
  refine Bnd_i (⟨y1, y2⟩) ?_; ((conv=>whnf);repeat((first|refine Ct ‹_› ?_|refine Cf ‹_› ?_|refine Ct rfl ?_|refine Cf rfl ?_|refine Bi rfl ?_|refine Bz rfl ?_|refine Lr ?_);conv=>whnf))
  (refine CallQ_some (F_l1Has av (nx b.m y d) hav) ?_ ?_ ?_; rfl; rfl); ((conv=>whnf);repeat((first|refine Ct ‹_› ?_|refine Cf ‹_› ?_|refine Ct rfl ?_|refine Cf rfl ?_|refine Bi rfl ?_|refine Bz rfl ?_|refine Lr ?_);conv=>whnf))
  refine Cnd_i (fun g3 => ?_) (fun g3 => ?_)
  rotate_left
  · have e3 : av.contains (nx b.m y d) = true := by rwa [Bool.not_eq_false'] at g3
    ((conv=>whnf);repeat((first|refine Ct ‹_› ?_|refine Cf ‹_› ?_|refine Ct rfl ?_|refine Cf rfl ?_|refine Bi rfl ?_|refine Bz rfl ?_|refine Lr ?_);conv=>whnf))
    refine ⟨n - 1, d + 1, L, ?_, by omega, by omega, by omega, hdb.skip (.inr (by rw [avP, e3]; rfl))⟩
    rw [wrapI (by omega)]; rfl
  have e3 : avP av (nx b.m y d) (bCo b k w y d) = true := g3
  ((conv=>whnf);repeat((first|refine Ct ‹_› ?_|refine Cf ‹_› ?_|refine Ct rfl ?_|refine Cf rfl ?_|refine Bi rfl ?_|refine Bz rfl ?_|refine Lr ?_);conv=>whnf))
  refine Bnd_i (⟨hnx.1, hnx.2⟩) ?_; ((conv=>whnf);repeat((first|refine Ct ‹_› ?_|refine Cf ‹_› ?_|refine Ct rfl ?_|refine Cf rfl ?_|refine Bi rfl ?_|refine Bz rfl ?_|refine Lr ?_);conv=>whnf))
  refine Cnd_i (fun g6 => ?_) (fun g6 => ?_)
  · have d6 := of_decide_eq_true g6
    ((conv=>whnf);repeat((first|refine Ct ‹_› ?_|refine Cf ‹_› ?_|refine Ct rfl ?_|refine Cf rfl ?_|refine Bi rfl ?_|refine Bz rfl ?_|refine Lr ?_);conv=>whnf))
    refine Bnd_i (⟨hnx.1, hnx.2⟩) ?_; ((conv=>whnf);repeat((first|refine Ct ‹_› ?_|refine Cf ‹_› ?_|refine Ct rfl ?_|refine Cf rfl ?_|refine Bi rfl ?_|refine Bz rfl ?_|refine Lr ?_);conv=>whnf))
    refine Rw_i (rwIn b.m.ter.length (L.set (nx b.m y d).toNat (L.getD y.toNat 0 + stepC b k y d w))) (by rw [wrapI (by omega)]; exact rwIn_set _ _ _ _ (by rw [hlen]; omega)) ?_
    ((conv=>whnf);repeat((first|refine Ct ‹_› ?_|refine Cf ‹_› ?_|refine Ct rfl ?_|refine Cf rfl ?_|refine Bi rfl ?_|refine Bz rfl ?_|refine Lr ?_);conv=>whnf))
    have hdy := hdb.yes he (Int.le_refl 0) i0 ⟨h1, by omega⟩ e2 e3 (.inl d6)
    refine ⟨n - 1, d + 1, L.set (nx b.m y d).toNat (L.getD y.toNat 0 + stepC b k y d w), ?_, by omega, by omega, by omega, hdy⟩
    rw [wrapI (by omega)]; rfl
  · have d6 := of_decide_eq_false g6
    ((conv=>whnf);repeat((first|refine Ct ‹_› ?_|refine Cf ‹_› ?_|refine Ct rfl ?_|refine Cf rfl ?_|refine Bi rfl ?_|refine Bz rfl ?_|refine Lr ?_);conv=>whnf))
    refine Bnd_i (⟨hnx.1, hnx.2⟩) ?_; ((conv=>whnf);repeat((first|refine Ct ‹_› ?_|refine Cf ‹_› ?_|refine Ct rfl ?_|refine Cf rfl ?_|refine Bi rfl ?_|refine Bz rfl ?_|refine Lr ?_);conv=>whnf))
    refine Cnd_e (c' := decide (L.getD y.toNat 0 + stepC b k y d w < L.getD (nx b.m y d).toNat 0)) (by rw [wrapI (by omega)]) ?_
    refine Cnd_i (fun g7 => ?_) (fun g7 => ?_)
    · have d7 := of_decide_eq_true g7
      ((conv=>whnf);repeat((first|refine Ct ‹_› ?_|refine Cf ‹_› ?_|refine Ct rfl ?_|refine Cf rfl ?_|refine Bi rfl ?_|refine Bz rfl ?_|refine Lr ?_);conv=>whnf))
      refine Bnd_i (⟨hnx.1, hnx.2⟩) ?_; ((conv=>whnf);repeat((first|refine Ct ‹_› ?_|refine Cf ‹_› ?_|refine Ct rfl ?_|refine Cf rfl ?_|refine Bi rfl ?_|refine Bz rfl ?_|refine Lr ?_);conv=>whnf))
      refine Rw_i (rwIn b.m.ter.length (L.set (nx b.m y d).toNat (L.getD y.toNat 0 + stepC b k y d w))) (by rw [wrapI (by omega)]; exact rwIn_set _ _ _ _ (by rw [hlen]; omega)) ?_
      ((conv=>whnf);repeat((first|refine Ct ‹_› ?_|refine Cf ‹_› ?_|refine Ct rfl ?_|refine Cf rfl ?_|refine Bi rfl ?_|refine Bz rfl ?_|refine Lr ?_);conv=>whnf))
      have hdy := hdb.yes he (Int.le_refl 0) i0 ⟨h1, by omega⟩ e2 e3 (.inr d7)
      refine ⟨n - 1, d + 1, L.set (nx b.m y d).toNat (L.getD y.toNat 0 + stepC b k y d w), ?_, by omega, by omega, by omega, hdy⟩
      rw [wrapI (by omega)]; rfl
    · have d7 := of_decide_eq_false g7
      ((conv=>whnf);repeat((first|refine Ct ‹_› ?_|refine Cf ‹_› ?_|refine Ct rfl ?_|refine Cf rfl ?_|refine Bi rfl ?_|refine Bz rfl ?_|refine Lr ?_);conv=>whnf))
      refine ⟨n - 1, d + 1, L, ?_, by omega, by omega, by omega, hdb.no (fun h0 => ?_)⟩
      · rw [wrapI (by omega)]; rfl
      · exact ⟨by show 0 ≤ L.getD (nx b.m y d).toNat 0; omega, by show L.getD (nx b.m y d).toNat 0 ≤ L.getD y.toNat 0 + stepC b k y d w; omega⟩
end Go.Proofs.YtjnpnpkjmlihdaaDoor.Ab
