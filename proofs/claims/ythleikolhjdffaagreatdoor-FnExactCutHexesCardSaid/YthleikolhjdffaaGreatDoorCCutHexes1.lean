/- Contracts of the functions that FnExactCutHexes reaches, by the abstract machine (part 1).
   Conditions: none. -/
import Derived.Test.YthleikolhjdffaaGreatDoorCCutHexes0
set_option linter.unusedVariables false
set_option linter.unusedSimpArgs false
namespace Go.Proofs.YthleikolhjdffaaGreatDoor.Ab
open Go Go.RowKit
attribute [local irreducible] Cnd Bnd Rw CallQ CallR CallRX Bts Isn Lc WLoop
set_option maxRecDepth 100000
set_option maxHeartbeats 1000000
theorem F_IsMap (m : Map) (ho : m.Ok) : Fun E0 100 [.agg m.cs] [] (.v (vB (okMap m))) [] [] := by
  have hlt : m.ter.length ≤ 9223372036854775807 := ho.ter.len
  refine Fun_of_xc k100 rfl rfl (fun k q h => by cases h) ?_
  ((conv=>whnf);repeat((first|refine Ct ‹_› ?_|refine Cf ‹_› ?_|refine Ct rfl ?_|refine Cf rfl ?_|refine Bi rfl ?_|refine Bz rfl ?_|refine Lr ?_);conv=>whnf))
  refine CallQ_some (F_inRange _ _ _) rfl rfl ?_
  ((conv=>whnf);repeat((first|refine Ct ‹_› ?_|refine Cf ‹_› ?_|refine Ct rfl ?_|refine Cf rfl ?_|refine Bi rfl ?_|refine Bz rfl ?_|refine Lr ?_);conv=>whnf))
  refine Cnd_i (fun g => ?_) (fun e1 => ?_)
  · have g : In m.w 1 10 = false := by rw [Bool.not_eq_true'] at g; exact g
    ((conv=>whnf);repeat((first|refine Ct ‹_› ?_|refine Cf ‹_› ?_|refine Ct rfl ?_|refine Cf rfl ?_|refine Bi rfl ?_|refine Bz rfl ?_|refine Lr ?_);conv=>whnf))
    refine ⟨?_, rfl, rfl⟩
    simp only [okMap, g, Bool.false_and]
    rfl
  have e1 : In m.w 1 10 = true := by rw [Bool.not_eq_false'] at e1; exact e1
  ((conv=>whnf);repeat((first|refine Ct ‹_› ?_|refine Cf ‹_› ?_|refine Ct rfl ?_|refine Cf rfl ?_|refine Bi rfl ?_|refine Bz rfl ?_|refine Lr ?_);conv=>whnf))
  refine CallQ_some (F_inRange _ _ _) rfl rfl ?_
  ((conv=>whnf);repeat((first|refine Ct ‹_› ?_|refine Cf ‹_› ?_|refine Ct rfl ?_|refine Cf rfl ?_|refine Bi rfl ?_|refine Bz rfl ?_|refine Lr ?_);conv=>whnf))
  refine Cnd_i (fun g => ?_) (fun e2 => ?_)
  · have g : In m.h 1 10 = false := by rw [Bool.not_eq_true'] at g; exact g
    ((conv=>whnf);repeat((first|refine Ct ‹_› ?_|refine Cf ‹_› ?_|refine Ct rfl ?_|refine Cf rfl ?_|refine Bi rfl ?_|refine Bz rfl ?_|refine Lr ?_);conv=>whnf))
    refine ⟨?_, rfl, rfl⟩
    simp only [okMap, g, Bool.and_false, Bool.false_and]
    rfl
  have e2 : In m.h 1 10 = true := by rw [Bool.not_eq_false'] at e2; exact e2
  have hw : WH m := ⟨(of_decide_eq_true e1).1, (of_decide_eq_true e1).2, (of_decide_eq_true e2).1, (of_decide_eq_true e2).2⟩
  have hs := hw.mul
  ((conv=>whnf);repeat((first|refine Ct ‹_› ?_|refine Cf ‹_› ?_|refine Ct rfl ?_|refine Cf rfl ?_|refine Bi rfl ?_|refine Bz rfl ?_|refine Lr ?_);conv=>whnf))
  rw [wrapI (n := m.w * m.h) (by omega)]
  refine Cnd_i (fun g => ?_) (fun e3 => ?_)
  · have g : ((m.ter.length : Int) == m.w * m.h) = false := by simpa using g
    ((conv=>whnf);repeat((first|refine Ct ‹_› ?_|refine Cf ‹_› ?_|refine Ct rfl ?_|refine Cf rfl ?_|refine Bi rfl ?_|refine Bz rfl ?_|refine Lr ?_);conv=>whnf))
    refine ⟨?_, rfl, rfl⟩
    simp only [okMap, g, Bool.and_false, Bool.false_and]
    rfl
  have e3 : ((m.ter.length : Int) == m.w * m.h) = true := by simpa using e3
  ((conv=>whnf);repeat((first|refine Ct ‹_› ?_|refine Cf ‹_› ?_|refine Ct rfl ?_|refine Cf rfl ?_|refine Bi rfl ?_|refine Bz rfl ?_|refine Lr ?_);conv=>whnf))
  refine WLoop_v ⟨[1, 31, 32, 33], [1], []⟩ (fun i : Int => hdS 66 [(1, .v (.one (.box 1 0))), (31, .v (.one (roI m.ter))), (32, .v (vI m.ter.length)), (33, .v (vI i))] [(1, m.cs)] [])
    (fun k i => 0 ≤ i ∧ i + k = m.ter.length ∧ ∀ j : Nat, (j : Int) < i → In (m.ter.getD j 0) 0 5 = true) m.ter.length 0 rfl ⟨by omega, by omega, fun j hj => by omega⟩ ?_
  rintro k i ⟨h1, h2, h3⟩
  ((conv=>whnf);repeat((first|refine Ct ‹_› ?_|refine Cf ‹_› ?_|refine Ct rfl ?_|refine Cf rfl ?_|refine Bi rfl ?_|refine Bz rfl ?_|refine Lr ?_);conv=>whnf))
  refine Cnd_i (fun h => ?_) (fun h => ?_)
  · have hi' : i < m.ter.length := of_decide_eq_true h
    ((conv=>whnf);repeat((first|refine Ct ‹_› ?_|refine Cf ‹_› ?_|refine Ct rfl ?_|refine Cf rfl ?_|refine Bi rfl ?_|refine Bz rfl ?_|refine Lr ?_);conv=>whnf))
    refine Bnd_i ⟨h1, hi'⟩ ?_
    ((conv=>whnf);repeat((first|refine Ct ‹_› ?_|refine Cf ‹_› ?_|refine Ct rfl ?_|refine Cf rfl ?_|refine Bi rfl ?_|refine Bz rfl ?_|refine Lr ?_);conv=>whnf))
    refine CallQ_some (F_isIndex _ 6 (by unfold i64; omega)) rfl rfl ?_
    ((conv=>whnf);repeat((first|refine Ct ‹_› ?_|refine Cf ‹_› ?_|refine Ct rfl ?_|refine Cf rfl ?_|refine Bi rfl ?_|refine Bz rfl ?_|refine Lr ?_);conv=>whnf))
    refine Cnd_i (fun g => ?_) (fun g => ?_)
    · have g : In (m.ter.getD i.toNat 0) 0 5 = false := by rw [Bool.not_eq_true'] at g; exact g
      ((conv=>whnf);repeat((first|refine Ct ‹_› ?_|refine Cf ‹_› ?_|refine Ct rfl ?_|refine Cf rfl ?_|refine Bi rfl ?_|refine Bz rfl ?_|refine Lr ?_);conv=>whnf))
      refine ⟨?_, rfl, rfl⟩
      have := all_not (p := fun t => In t 0 5) h1 hi' g
      simp only [okMap, this, Bool.and_false, Bool.false_and]
      rfl
    have g : In (m.ter.getD i.toNat 0) 0 5 = true := by rw [Bool.not_eq_false'] at g; exact g
    ((conv=>whnf);repeat((first|refine Ct ‹_› ?_|refine Cf ‹_› ?_|refine Ct rfl ?_|refine Cf rfl ?_|refine Bi rfl ?_|refine Bz rfl ?_|refine Lr ?_);conv=>whnf))
    refine ⟨k - 1, _, rfl, ?_, ?_, ?_, ?_⟩
    · omega
    · rw [wrapI (by omega)]; omega
    · rw [wrapI (by omega)]; omega
    · rw [wrapI (by omega)]
      intro j hj
      by_cases e : (j : Int) < i
      · exact h3 j e
      · have e : j = i.toNat := by omega
        subst e; exact g
  have hi' := of_decide_eq_false h
  have e4 : (m.ter.all fun t => In t 0 5) = true := all_upto (fun j hj => h3 j (by omega))
  have fin : okMap m = (edgesOk m m.riv && edgesOk m m.roa) := by simp only [okMap, e1, e2, e3, e4, Bool.true_and]
  rw [fin]
  ((conv=>whnf);repeat((first|refine Ct ‹_› ?_|refine Cf ‹_› ?_|refine Ct rfl ?_|refine Cf rfl ?_|refine Bi rfl ?_|refine Bz rfl ?_|refine Lr ?_);conv=>whnf))
  refine Rw_self ?_
  ((conv=>whnf);repeat((first|refine Ct ‹_› ?_|refine Cf ‹_› ?_|refine Ct rfl ?_|refine Cf rfl ?_|refine Bi rfl ?_|refine Bz rfl ?_|refine Lr ?_);conv=>whnf))
  refine WLoop_v ⟨[1, 45, 46, 47], [1], []⟩ (fun i : Int => hdS 66 [(1, .v (.one (.box 1 0))), (45, .v (.one (.own (vkey 45) 2))), (46, .v (vI 2)), (47, .v (vI i))] [(1, m.cs)] [(vkey 45, twoR m)])
    (fun k i => (i = 0 ∧ k = 2) ∨ (i = 1 ∧ k = 1 ∧ edgesOk m m.riv = true) ∨ (i = 2 ∧ k = 0 ∧ edgesOk m m.riv = true ∧ edgesOk m m.roa = true)) 2 0 rfl (.inl ⟨rfl, rfl⟩) ?_
  clear h h1 h2 h3 hi' k i
  rintro k i (⟨rfl, rfl⟩ | ⟨rfl, rfl, q1⟩ | ⟨rfl, rfl, q1, q2⟩)
  · ((conv=>whnf);repeat((first|refine Ct ‹_› ?_|refine Cf ‹_› ?_|refine Ct rfl ?_|refine Cf rfl ?_|refine Bi rfl ?_|refine Bz rfl ?_|refine Lr ?_);conv=>whnf))
    refine Bnd_i (by decide) ?_
    ((conv=>whnf);repeat((first|refine Ct ‹_› ?_|refine Cf ‹_› ?_|refine Ct rfl ?_|refine Cf rfl ?_|refine Bi rfl ?_|refine Bz rfl ?_|refine Lr ?_);conv=>whnf))
    refine CallQ_some (F_increasing m.riv ho.riv.len) rfl rfl ?_
    ((conv=>whnf);repeat((first|refine Ct ‹_› ?_|refine Cf ‹_› ?_|refine Ct rfl ?_|refine Cf rfl ?_|refine Bi rfl ?_|refine Bz rfl ?_|refine Lr ?_);conv=>whnf))
    refine Cnd_i (fun g => ?_) (fun r1 => ?_)
    · have g : rising m.riv = false := by rw [Bool.not_eq_true'] at g; exact g
      ((conv=>whnf);repeat((first|refine Ct ‹_› ?_|refine Cf ‹_› ?_|refine Ct rfl ?_|refine Cf rfl ?_|refine Bi rfl ?_|refine Bz rfl ?_|refine Lr ?_);conv=>whnf))
      refine ⟨?_, rfl, rfl⟩
      have : edgesOk m m.riv = false := by simp only [edgesOk, g, Bool.and_false]
      simp only [this, Bool.and_false, Bool.false_and]
      rfl
    have r1 : rising m.riv = true := by rw [Bool.not_eq_false'] at r1; exact r1
    ((conv=>whnf);repeat((first|refine Ct ‹_› ?_|refine Cf ‹_› ?_|refine Ct rfl ?_|refine Cf rfl ?_|refine Bi rfl ?_|refine Bz rfl ?_|refine Lr ?_);conv=>whnf))
    have hll : m.riv.length ≤ 9223372036854775807 := ho.riv.len
    refine WLoop_v ⟨[1, 45, 46, 47, 54, 55, 56], [1], []⟩ (fun i : Int => hdS 66 [(1, .v (.one (.box 1 0))), (45, .v (.one (.own (vkey 45) 2))), (46, .v (vI 2)), (47, .v (vI 0)), (54, .v (.one (roI m.riv))), (55, .v (vI m.riv.length)), (56, .v (vI i))] [(1, m.cs)] [(vkey 45, twoR m)])
      (fun k i => 0 ≤ i ∧ i + k = m.riv.length ∧ ∀ j : Nat, (j : Int) < i → onEdge m (m.riv.getD j 0) = true) m.riv.length 0 rfl ⟨by omega, by omega, fun j hj => by omega⟩ ?_
    rintro k i ⟨h1, h2, h3⟩
    ((conv=>whnf);repeat((first|refine Ct ‹_› ?_|refine Cf ‹_› ?_|refine Ct rfl ?_|refine Cf rfl ?_|refine Bi rfl ?_|refine Bz rfl ?_|refine Lr ?_);conv=>whnf))
    refine Cnd_i (fun h => ?_) (fun h => ?_)
    · have hi' : i < m.riv.length := of_decide_eq_true h
      ((conv=>whnf);repeat((first|refine Ct ‹_› ?_|refine Cf ‹_› ?_|refine Ct rfl ?_|refine Cf rfl ?_|refine Bi rfl ?_|refine Bz rfl ?_|refine Lr ?_);conv=>whnf))
      refine Bnd_i ⟨h1, hi'⟩ ?_
      ((conv=>whnf);repeat((first|refine Ct ‹_› ?_|refine Cf ‹_› ?_|refine Ct rfl ?_|refine Cf rfl ?_|refine Bi rfl ?_|refine Bz rfl ?_|refine Lr ?_);conv=>whnf))
      refine CallQ_some (F_isEdge m hw _) rfl rfl ?_
      ((conv=>whnf);repeat((first|refine Ct ‹_› ?_|refine Cf ‹_› ?_|refine Ct rfl ?_|refine Cf rfl ?_|refine Bi rfl ?_|refine Bz rfl ?_|refine Lr ?_);conv=>whnf))
      refine Cnd_i (fun g => ?_) (fun g => ?_)
      · have g : onEdge m (m.riv.getD i.toNat 0) = false := by rw [Bool.not_eq_true'] at g; exact g
        ((conv=>whnf);repeat((first|refine Ct ‹_› ?_|refine Cf ‹_› ?_|refine Ct rfl ?_|refine Cf rfl ?_|refine Bi rfl ?_|refine Bz rfl ?_|refine Lr ?_);conv=>whnf))
        refine ⟨?_, rfl, rfl⟩
        have := all_not (p := fun e => onEdge m e) h1 hi' g
        have : edgesOk m m.riv = false := by simp only [edgesOk, this, Bool.false_and]
        simp only [this, Bool.and_false, Bool.false_and]
        rfl
      have g : onEdge m (m.riv.getD i.toNat 0) = true := by rw [Bool.not_eq_false'] at g; exact g
      ((conv=>whnf);repeat((first|refine Ct ‹_› ?_|refine Cf ‹_› ?_|refine Ct rfl ?_|refine Cf rfl ?_|refine Bi rfl ?_|refine Bz rfl ?_|refine Lr ?_);conv=>whnf))
      refine ⟨k - 1, _, rfl, ?_, ?_, ?_, ?_⟩
      · omega
      · rw [wrapI (by omega)]; omega
      · rw [wrapI (by omega)]; omega
      · rw [wrapI (by omega)]
        intro j hj
        by_cases e : (j : Int) < i
        · exact h3 j e
        · have e : j = i.toNat := by omega
          subst e; exact g
    have hi' := of_decide_eq_false h
    have r2 : (m.riv.all fun e => onEdge m e) = true := all_upto (fun j hj => h3 j (by omega))
    have r3 : edgesOk m m.riv = true := by simp only [edgesOk, r1, r2, Bool.and_self]
    ((conv=>whnf);repeat((first|refine Ct ‹_› ?_|refine Cf ‹_› ?_|refine Ct rfl ?_|refine Cf rfl ?_|refine Bi rfl ?_|refine Bz rfl ?_|refine Lr ?_);conv=>whnf))
    exact ⟨1, _, rfl, by omega, .inr (.inl ⟨rfl, rfl, r3⟩)⟩
  · ((conv=>whnf);repeat((first|refine Ct ‹_› ?_|refine Cf ‹_› ?_|refine Ct rfl ?_|refine Cf rfl ?_|refine Bi rfl ?_|refine Bz rfl ?_|refine Lr ?_);conv=>whnf))
    refine Bnd_i (by decide) ?_
    ((conv=>whnf);repeat((first|refine Ct ‹_› ?_|refine Cf ‹_› ?_|refine Ct rfl ?_|refine Cf rfl ?_|refine Bi rfl ?_|refine Bz rfl ?_|refine Lr ?_);conv=>whnf))
    refine CallQ_some (F_increasing m.roa ho.roa.len) rfl rfl ?_
    ((conv=>whnf);repeat((first|refine Ct ‹_› ?_|refine Cf ‹_› ?_|refine Ct rfl ?_|refine Cf rfl ?_|refine Bi rfl ?_|refine Bz rfl ?_|refine Lr ?_);conv=>whnf))
    refine Cnd_i (fun g => ?_) (fun r1 => ?_)
    · have g : rising m.roa = false := by rw [Bool.not_eq_true'] at g; exact g
      ((conv=>whnf);repeat((first|refine Ct ‹_› ?_|refine Cf ‹_› ?_|refine Ct rfl ?_|refine Cf rfl ?_|refine Bi rfl ?_|refine Bz rfl ?_|refine Lr ?_);conv=>whnf))
      refine ⟨?_, rfl, rfl⟩
      have : edgesOk m m.roa = false := by simp only [edgesOk, g, Bool.and_false]
      simp only [this, Bool.and_false, Bool.false_and]
      rfl
    have r1 : rising m.roa = true := by rw [Bool.not_eq_false'] at r1; exact r1
    ((conv=>whnf);repeat((first|refine Ct ‹_› ?_|refine Cf ‹_› ?_|refine Ct rfl ?_|refine Cf rfl ?_|refine Bi rfl ?_|refine Bz rfl ?_|refine Lr ?_);conv=>whnf))
    have hll : m.roa.length ≤ 9223372036854775807 := ho.roa.len
    refine WLoop_v ⟨[1, 45, 46, 47, 54, 55, 56], [1], []⟩ (fun i : Int => hdS 66 [(1, .v (.one (.box 1 0))), (45, .v (.one (.own (vkey 45) 2))), (46, .v (vI 2)), (47, .v (vI 1)), (54, .v (.one (roI m.roa))), (55, .v (vI m.roa.length)), (56, .v (vI i))] [(1, m.cs)] [(vkey 45, twoR m)])
      (fun k i => 0 ≤ i ∧ i + k = m.roa.length ∧ ∀ j : Nat, (j : Int) < i → onEdge m (m.roa.getD j 0) = true) m.roa.length 0 rfl ⟨by omega, by omega, fun j hj => by omega⟩ ?_
    rintro k i ⟨h1, h2, h3⟩
    ((conv=>whnf);repeat((first|refine Ct ‹_› ?_|refine Cf ‹_› ?_|refine Ct rfl ?_|refine Cf rfl ?_|refine Bi rfl ?_|refine Bz rfl ?_|refine Lr ?_);conv=>whnf))
    refine Cnd_i (fun h => ?_) (fun h => ?_)
    · have hi' : i < m.roa.length := of_decide_eq_true h
      ((conv=>whnf);repeat((first|refine Ct ‹_› ?_|refine Cf ‹_› ?_|refine Ct rfl ?_|refine Cf rfl ?_|refine Bi rfl ?_|refine Bz rfl ?_|refine Lr ?_);conv=>whnf))
      refine Bnd_i ⟨h1, hi'⟩ ?_
      ((conv=>whnf);repeat((first|refine Ct ‹_› ?_|refine Cf ‹_› ?_|refine Ct rfl ?_|refine Cf rfl ?_|refine Bi rfl ?_|refine Bz rfl ?_|refine Lr ?_);conv=>whnf))
      refine CallQ_some (F_isEdge m hw _) rfl rfl ?_
      ((conv=>whnf);repeat((first|refine Ct ‹_› ?_|refine Cf ‹_› ?_|refine Ct rfl ?_|refine Cf rfl ?_|refine Bi rfl ?_|refine Bz rfl ?_|refine Lr ?_);conv=>whnf))
      refine Cnd_i (fun g => ?_) (fun g => ?_)
      · have g : onEdge m (m.roa.getD i.toNat 0) = false := by rw [Bool.not_eq_true'] at g; exact g
        ((conv=>whnf);repeat((first|refine Ct ‹_› ?_|refine Cf ‹_› ?_|refine Ct rfl ?_|refine Cf rfl ?_|refine Bi rfl ?_|refine Bz rfl ?_|refine Lr ?_);conv=>whnf))
        refine ⟨?_, rfl, rfl⟩
        have := all_not (p := fun e => onEdge m e) h1 hi' g
        have : edgesOk m m.roa = false := by simp only [edgesOk, this, Bool.false_and]
        simp only [this, Bool.and_false, Bool.false_and]
        rfl
      have g : onEdge m (m.roa.getD i.toNat 0) = true := by rw [Bool.not_eq_false'] at g; exact g
      ((conv=>whnf);repeat((first|refine Ct ‹_› ?_|refine Cf ‹_› ?_|refine Ct rfl ?_|refine Cf rfl ?_|refine Bi rfl ?_|refine Bz rfl ?_|refine Lr ?_);conv=>whnf))
      refine ⟨k - 1, _, rfl, ?_, ?_, ?_, ?_⟩
      · omega
      · rw [wrapI (by omega)]; omega
      · rw [wrapI (by omega)]; omega
      · rw [wrapI (by omega)]
        intro j hj
        by_cases e : (j : Int) < i
        · exact h3 j e
        · have e : j = i.toNat := by omega
          subst e; exact g
    have hi' := of_decide_eq_false h
    have r2 : (m.roa.all fun e => onEdge m e) = true := all_upto (fun j hj => h3 j (by omega))
    have r3 : edgesOk m m.roa = true := by simp only [edgesOk, r1, r2, Bool.and_self]
    ((conv=>whnf);repeat((first|refine Ct ‹_› ?_|refine Cf ‹_› ?_|refine Ct rfl ?_|refine Cf rfl ?_|refine Bi rfl ?_|refine Bz rfl ?_|refine Lr ?_);conv=>whnf))
    exact ⟨0, _, rfl, by omega, .inr (.inr ⟨rfl, rfl, q1, r3⟩)⟩
  · ((conv=>whnf);repeat((first|refine Ct ‹_› ?_|refine Cf ‹_› ?_|refine Ct rfl ?_|refine Cf rfl ?_|refine Bi rfl ?_|refine Bz rfl ?_|refine Lr ?_);conv=>whnf))
    refine ⟨?_, rfl, rfl⟩
    rw [q1, q2]; rfl

theorem F_IsBoard_1 (b : Brd) (t : Int) : Fun E0 101 [vI t, .one (.pro 12 fun j => nth b.cs j)] [] (.v (vB (decide (t ≥ (b.r.ter.length : Int))))) [] [] := by
  refine Fun_of_xc k101 rfl rfl (fun k q h => by cases h) ?_
  ((conv=>whnf);repeat((first|refine Ct ‹_› ?_|refine Cf ‹_› ?_|refine Ct rfl ?_|refine Cf rfl ?_|refine Bi rfl ?_|refine Bz rfl ?_|refine Lr ?_);conv=>whnf))
  exact ⟨rfl, rfl, rfl⟩

theorem F_IsBoard (b : Brd) (ho : b.Ok) : Fun E0 66 [.agg b.cs] [] (.v (vB (okBrd b))) [] [] := by
  refine Fun_of_xc k66 rfl rfl (fun k q h => by cases h) ?_
  ((conv=>whnf);repeat((first|refine Ct ‹_› ?_|refine Cf ‹_› ?_|refine Ct rfl ?_|refine Cf rfl ?_|refine Bi rfl ?_|refine Bz rfl ?_|refine Lr ?_);conv=>whnf))
  refine CallQ_some (F_IsRules b.r ho.r) rfl rfl ?_
  ((conv=>whnf);repeat((first|refine Ct ‹_› ?_|refine Cf ‹_› ?_|refine Ct rfl ?_|refine Cf rfl ?_|refine Bi rfl ?_|refine Bz rfl ?_|refine Lr ?_);conv=>whnf))
  refine Cnd_i (fun g => ?_) (fun e1 => ?_)
  · have g : okRul b.r = false := by rw [Bool.not_eq_true'] at g; exact g
    ((conv=>whnf);repeat((first|refine Ct ‹_› ?_|refine Cf ‹_› ?_|refine Ct rfl ?_|refine Cf rfl ?_|refine Bi rfl ?_|refine Bz rfl ?_|refine Lr ?_);conv=>whnf))
    refine ⟨?_, rfl, rfl⟩
    simp only [okBrd, g, Bool.false_and]
    rfl
  have e1 : okRul b.r = true := by rw [Bool.not_eq_false'] at e1; exact e1
  ((conv=>whnf);repeat((first|refine Ct ‹_› ?_|refine Cf ‹_› ?_|refine Ct rfl ?_|refine Cf rfl ?_|refine Bi rfl ?_|refine Bz rfl ?_|refine Lr ?_);conv=>whnf))
  refine CallQ_some (F_IsMap b.m ho.m) rfl rfl ?_
  ((conv=>whnf);repeat((first|refine Ct ‹_› ?_|refine Cf ‹_› ?_|refine Ct rfl ?_|refine Cf rfl ?_|refine Bi rfl ?_|refine Bz rfl ?_|refine Lr ?_);conv=>whnf))
  refine Cnd_i (fun g => ?_) (fun e2 => ?_)
  · have g : okMap b.m = false := by rw [Bool.not_eq_true'] at g; exact g
    ((conv=>whnf);repeat((first|refine Ct ‹_› ?_|refine Cf ‹_› ?_|refine Ct rfl ?_|refine Cf rfl ?_|refine Bi rfl ?_|refine Bz rfl ?_|refine Lr ?_);conv=>whnf))
    refine ⟨?_, rfl, rfl⟩
    simp only [okBrd, g, Bool.and_false, Bool.false_and]
    rfl
  have e2 : okMap b.m = true := by rw [Bool.not_eq_false'] at e2; exact e2
  ((conv=>whnf);repeat((first|refine Ct ‹_› ?_|refine Cf ‹_› ?_|refine Ct rfl ?_|refine Cf rfl ?_|refine Bi rfl ?_|refine Bz rfl ?_|refine Lr ?_);conv=>whnf))
  refine CallQ_some (F_ContainsFuncI b.m.ter (fun t => decide (t ≥ (b.r.ter.length : Int))) 101 1 _ _ [.one (.pro 12 fun j => nth b.cs j)] rfl ho.m.ter.len (fun x _ => F_IsBoard_1 b x)) rfl rfl ?_
  ((conv=>whnf);repeat((first|refine Ct ‹_› ?_|refine Cf ‹_› ?_|refine Ct rfl ?_|refine Cf rfl ?_|refine Bi rfl ?_|refine Bz rfl ?_|refine Lr ?_);conv=>whnf))
  refine ⟨?_, rfl, rfl⟩
  have : (!(b.m.ter.any fun t => decide (t ≥ (b.r.ter.length : Int)))) = b.m.ter.all fun t => In t 0 (b.r.ter.length - 1) := by
    have hm := e2
    simp only [okMap, Bool.and_eq_true] at hm
    have h5 := List.all_eq_true.1 hm.1.1.2
    rw [List.not_any_eq_all_not, Bool.eq_iff_iff, List.all_eq_true, List.all_eq_true]
    constructor
    · intro h x hx
      have h1 := h x hx
      have h2 := of_decide_eq_true (h5 x hx)
      simp at h1
      simp only [In, decide_eq_true_eq]; omega
    · intro h x hx
      have h1 := of_decide_eq_true (h x hx)
      simp; omega
  rw [this]
  simp only [okBrd, e1, e2, Bool.true_and]
  rfl

/-- what is left when so much is taken, or -1 -/
def sub1 (left n : Int) : Int := if left - n < 0 then -1 else left - n

theorem F_szIntS (l : List Int) (left : Int) (hl : l.length ≤ maxLen) (h0 : 0 ≤ left) (h1 : left ≤ 1048576) : Fun E0 58 [.one (roI l), vI left] [] (.v (vI (sub1 left l.length))) [] [] := by
  have hl : l.length ≤ 9223372036854775807 := hl
  refine Fun_of_xc k58 rfl rfl (fun k q h => by cases h) ?_
  ((conv=>whnf);repeat((first|refine Ct ‹_› ?_|refine Cf ‹_› ?_|refine Ct rfl ?_|refine Cf rfl ?_|refine Bi rfl ?_|refine Bz rfl ?_|refine Lr ?_);conv=>whnf))
  rw [wrapI (n := left - l.length) (by omega)]
  refine Cnd_i (fun g => ?_) (fun g => ?_)
  · have g := of_decide_eq_true g
    ((conv=>whnf);repeat((first|refine Ct ‹_› ?_|refine Cf ‹_› ?_|refine Ct rfl ?_|refine Cf rfl ?_|refine Bi rfl ?_|refine Bz rfl ?_|refine Lr ?_);conv=>whnf))
    refine ⟨?_, rfl, rfl⟩
    rw [sub1, if_pos g]; rfl
  · have g := of_decide_eq_false g
    ((conv=>whnf);repeat((first|refine Ct ‹_› ?_|refine Cf ‹_› ?_|refine Ct rfl ?_|refine Cf rfl ?_|refine Bi rfl ?_|refine Bz rfl ?_|refine Lr ?_);conv=>whnf))
    refine ⟨?_, rfl, rfl⟩
    rw [sub1, if_neg g]; rfl

theorem sub1_b {left n : Int} (h0 : 0 ≤ left) (h1 : left ≤ 1048576) (hn : 0 ≤ n) : (sub1 left n = -1 ∧ left < n) ∨ (sub1 left n = left - n ∧ n ≤ left) := by
  unfold sub1
  by_cases h : left - n < 0
  · rw [if_pos h]; exact .inl ⟨rfl, by omega⟩
  · rw [if_neg h]; exact .inr ⟨rfl, by omega⟩

def szT (t : Ter) (left : Int) : Int := if left - t.name.size < 0 then -1 else sub1 (left - t.name.size) t.cost.length

theorem F_szTerrain (t : Ter) (ht : t.Ok) (left : Int) (h0 : 0 ≤ left) (h1 : left ≤ 1048576) : Fun E0 91 [.agg t.cs, vI left] [] (.v (vI (szT t left))) [] [] := by
  have hs : t.name.size ≤ 9223372036854775807 := ht.name
  refine Fun_of_xc k91 rfl rfl (fun k q h => by cases h) ?_
  ((conv=>whnf);repeat((first|refine Ct ‹_› ?_|refine Cf ‹_› ?_|refine Ct rfl ?_|refine Cf rfl ?_|refine Bi rfl ?_|refine Bz rfl ?_|refine Lr ?_);conv=>whnf))
  rw [wrapI (n := left - t.name.size) (by omega)]
  refine Cnd_i (fun g => ?_) (fun g => ?_)
  · have g := of_decide_eq_true g
    ((conv=>whnf);repeat((first|refine Ct ‹_› ?_|refine Cf ‹_› ?_|refine Ct rfl ?_|refine Cf rfl ?_|refine Bi rfl ?_|refine Bz rfl ?_|refine Lr ?_);conv=>whnf))
    refine ⟨?_, rfl, rfl⟩
    rw [szT, if_pos g]; rfl
  have g := of_decide_eq_false g
  ((conv=>whnf);repeat((first|refine Ct ‹_› ?_|refine Cf ‹_› ?_|refine Ct rfl ?_|refine Cf rfl ?_|refine Bi rfl ?_|refine Bz rfl ?_|refine Lr ?_);conv=>whnf))
  refine CallQ_some (F_szIntS t.cost _ ht.cost.len (by omega) (by omega)) rfl rfl ?_
  ((conv=>whnf);repeat((first|refine Ct ‹_› ?_|refine Cf ‹_› ?_|refine Ct rfl ?_|refine Cf rfl ?_|refine Bi rfl ?_|refine Bz rfl ?_|refine Lr ?_);conv=>whnf))
  have hb := sub1_b (left := left - t.name.size) (n := t.cost.length) (by omega) (by omega) (by omega)
  refine Cnd_i (fun g2 => ?_) (fun g2 => ?_)
  · have g2 := of_decide_eq_true g2
    ((conv=>whnf);repeat((first|refine Ct ‹_› ?_|refine Cf ‹_› ?_|refine Ct rfl ?_|refine Cf rfl ?_|refine Bi rfl ?_|refine Bz rfl ?_|refine Lr ?_);conv=>whnf))
    refine ⟨?_, rfl, rfl⟩
    have : sub1 (left - t.name.size) t.cost.length = -1 := by omega
    rw [szT, if_neg g, this]; rfl
  · ((conv=>whnf);repeat((first|refine Ct ‹_› ?_|refine Cf ‹_› ?_|refine Ct rfl ?_|refine Cf rfl ?_|refine Bi rfl ?_|refine Bz rfl ?_|refine Lr ?_);conv=>whnf))
    refine ⟨?_, rfl, rfl⟩
    rw [szT, if_neg g]; rfl

def szK (t : Knd) (left : Int) : Int := sub1 left t.name.size

theorem F_szKind (t : Knd) (ht : t.Ok) (left : Int) (h0 : 0 ≤ left) (h1 : left ≤ 1048576) : Fun E0 92 [.agg t.cs, vI left] [] (.v (vI (szK t left))) [] [] := by
  have hs : t.name.size ≤ 9223372036854775807 := ht.name
  refine Fun_of_xc k92 rfl rfl (fun k q h => by cases h) ?_
  ((conv=>whnf);repeat((first|refine Ct ‹_› ?_|refine Cf ‹_› ?_|refine Ct rfl ?_|refine Cf rfl ?_|refine Bi rfl ?_|refine Bz rfl ?_|refine Lr ?_);conv=>whnf))
  rw [wrapI (n := left - t.name.size) (by omega)]
  refine Cnd_i (fun g => ?_) (fun g => ?_)
  · have g := of_decide_eq_true g
    ((conv=>whnf);repeat((first|refine Ct ‹_› ?_|refine Cf ‹_› ?_|refine Ct rfl ?_|refine Cf rfl ?_|refine Bi rfl ?_|refine Bz rfl ?_|refine Lr ?_);conv=>whnf))
    refine ⟨?_, rfl, rfl⟩
    rw [szK, sub1, if_pos g]; rfl
  · have g := of_decide_eq_false g
    ((conv=>whnf);repeat((first|refine Ct ‹_› ?_|refine Cf ‹_› ?_|refine Ct rfl ?_|refine Cf rfl ?_|refine Bi rfl ?_|refine Bz rfl ?_|refine Lr ?_);conv=>whnf))
    refine ⟨?_, rfl, rfl⟩
    rw [szK, sub1, if_neg g]; rfl

def szL {α : Type} (f : α → Int → Int) : List α → Int → Int
  | [], left => left
  | a :: l, left => if f a left < 0 then -1 else szL f l (f a left)

def szS {α : Type} (f : α → Int → Int) (l : List α) (left : Int) : Int := if left - l.length < 0 then -1 else szL f l (left - l.length)

theorem drop_get {α : Type} {l : List α} {d : α} {i : Int} (h0 : 0 ≤ i) (h1 : i < l.length) : l.drop i.toNat = l.getD i.toNat d :: l.drop (i + 1).toNat := by
  have hl : i.toNat < l.length := by omega
  rw [List.drop_eq_getElem_cons hl, show (i + 1).toNat = i.toNat + 1 by omega]
  simp [hl]

theorem szT_b {t : Ter} {left : Int} (h0 : 0 ≤ left) (h1 : left ≤ 1048576) : szT t left ≤ 1048576 ∧ (szT t left < 0 → szT t left = -1) := by
  unfold szT
  by_cases g : left - t.name.size < 0
  · rw [if_pos g]; exact ⟨by omega, fun _ => rfl⟩
  · rw [if_neg g]
    have := sub1_b (left := left - t.name.size) (n := t.cost.length) (by omega) (by omega) (by omega)
    omega

theorem szK_b {t : Knd} {left : Int} (h0 : 0 ≤ left) (h1 : left ≤ 1048576) : szK t left ≤ 1048576 ∧ (szK t left < 0 → szK t left = -1) := by
  unfold szK
  have := sub1_b (left := left) (n := t.name.size) h0 h1 (by omega)
  omega

theorem F_szTerrainS (l : List Ter) (hl : l.length ≤ maxLen) (ho : ∀ t ∈ l, t.Ok) (left : Int) (h0 : 0 ≤ left) (h1 : left ≤ 1048576) : Fun E0 56 [.one (roT l), vI left] [] (.v (vI (szS szT l left))) [] [] := by
  have hl : l.length ≤ 9223372036854775807 := hl
  refine Fun_of_xc k56 rfl rfl (fun k q h => by cases h) ?_
  ((conv=>whnf);repeat((first|refine Ct ‹_› ?_|refine Cf ‹_› ?_|refine Ct rfl ?_|refine Cf rfl ?_|refine Bi rfl ?_|refine Bz rfl ?_|refine Lr ?_);conv=>whnf))
  rw [wrapI (n := left - l.length) (by omega)]
  refine Cnd_i (fun g => ?_) (fun g => ?_)
  · have g := of_decide_eq_true g
    ((conv=>whnf);repeat((first|refine Ct ‹_› ?_|refine Cf ‹_› ?_|refine Ct rfl ?_|refine Cf rfl ?_|refine Bi rfl ?_|refine Bz rfl ?_|refine Lr ?_);conv=>whnf))
    refine ⟨?_, rfl, rfl⟩
    rw [szS, if_pos g]; rfl
  have g := of_decide_eq_false g
  rw [szS, if_neg g]
  ((conv=>whnf);repeat((first|refine Ct ‹_› ?_|refine Cf ‹_› ?_|refine Ct rfl ?_|refine Cf rfl ?_|refine Bi rfl ?_|refine Bz rfl ?_|refine Lr ?_);conv=>whnf))
  refine WLoop_v ⟨[0, 1, 5], [], []⟩ (fun p : Int × Int => hdS 27 [(0, .v (.one (roT l))), (1, .v (vI p.2)), (5, .v (vI p.1))] [] [])
    (fun k p => 0 ≤ p.1 ∧ p.1 + k = l.length ∧ (0 ≤ p.2 ∧ p.2 ≤ 1048576) ∧ szL szT l (left - l.length) = szL szT (l.drop p.1.toNat) p.2) l.length (0, left - l.length) rfl ⟨by omega, by omega, ⟨by omega, by omega⟩, rfl⟩ ?_
  rintro k ⟨i, x⟩ ⟨a1, a2, ⟨a3, a4⟩, a5⟩
  simp only at a1 a2 a3 a4 a5
  ((conv=>whnf);repeat((first|refine Ct ‹_› ?_|refine Cf ‹_› ?_|refine Ct rfl ?_|refine Cf rfl ?_|refine Bi rfl ?_|refine Bz rfl ?_|refine Lr ?_);conv=>whnf))
  refine Cnd_i (fun h => ?_) (fun h => ?_)
  · have hi' : i < l.length := of_decide_eq_true h
    have hb := szT_b (t := l.getD i.toNat Ter.d) a3 a4
    rw [drop_get (d := Ter.d) a1 hi'] at a5
    ((conv=>whnf);repeat((first|refine Ct ‹_› ?_|refine Cf ‹_› ?_|refine Ct rfl ?_|refine Cf rfl ?_|refine Bi rfl ?_|refine Bz rfl ?_|refine Lr ?_);conv=>whnf))
    refine Bnd_i ⟨a1, hi'⟩ ?_
    ((conv=>whnf);repeat((first|refine Ct ‹_› ?_|refine Cf ‹_› ?_|refine Ct rfl ?_|refine Cf rfl ?_|refine Bi rfl ?_|refine Bz rfl ?_|refine Lr ?_);conv=>whnf))
    refine CallQ_some (F_szTerrain (l.getD i.toNat Ter.d) (ho _ (getD_memT a1 hi')) x a3 a4) rfl rfl ?_
    ((conv=>whnf);repeat((first|refine Ct ‹_› ?_|refine Cf ‹_› ?_|refine Ct rfl ?_|refine Cf rfl ?_|refine Bi rfl ?_|refine Bz rfl ?_|refine Lr ?_);conv=>whnf))
    refine Cnd_i (fun g2 => ?_) (fun g2 => ?_)
    · have g2 := of_decide_eq_true g2
      ((conv=>whnf);repeat((first|refine Ct ‹_› ?_|refine Cf ‹_› ?_|refine Ct rfl ?_|refine Cf rfl ?_|refine Bi rfl ?_|refine Bz rfl ?_|refine Lr ?_);conv=>whnf))
      refine ⟨?_, rfl, rfl⟩
      rw [a5, szL, if_pos g2]; rfl
    · have g2 := of_decide_eq_false g2
      ((conv=>whnf);repeat((first|refine Ct ‹_› ?_|refine Cf ‹_› ?_|refine Ct rfl ?_|refine Cf rfl ?_|refine Bi rfl ?_|refine Bz rfl ?_|refine Lr ?_);conv=>whnf))
      refine ⟨k - 1, (IntKind.i64.wrap (i + 1), szT (l.getD i.toNat Ter.d) x), rfl, ?_, ?_, ?_, ⟨?_, hb.1⟩, ?_⟩
      · omega
      · simp only; rw [wrapI (by omega)]; omega
      · simp only; rw [wrapI (by omega)]; omega
      · simp only; omega
      · simp only; rw [wrapI (by omega), a5, szL, if_neg g2]
  · have hi' := of_decide_eq_false h
    ((conv=>whnf);repeat((first|refine Ct ‹_› ?_|refine Cf ‹_› ?_|refine Ct rfl ?_|refine Cf rfl ?_|refine Bi rfl ?_|refine Bz rfl ?_|refine Lr ?_);conv=>whnf))
    refine ⟨?_, rfl, rfl⟩
    have : l.drop i.toNat = [] := by rw [List.drop_eq_nil_iff]; omega
    rw [a5, this]; rfl

theorem F_szKindS (l : List Knd) (hl : l.length ≤ maxLen) (ho : ∀ t ∈ l, t.Ok) (left : Int) (h0 : 0 ≤ left) (h1 : left ≤ 1048576) : Fun E0 57 [.one (roK l), vI left] [] (.v (vI (szS szK l left))) [] [] := by
  have hl : l.length ≤ 9223372036854775807 := hl
  refine Fun_of_xc k57 rfl rfl (fun k q h => by cases h) ?_
  ((conv=>whnf);repeat((first|refine Ct ‹_› ?_|refine Cf ‹_› ?_|refine Ct rfl ?_|refine Cf rfl ?_|refine Bi rfl ?_|refine Bz rfl ?_|refine Lr ?_);conv=>whnf))
  rw [wrapI (n := left - l.length) (by omega)]
  refine Cnd_i (fun g => ?_) (fun g => ?_)
  · have g := of_decide_eq_true g
    ((conv=>whnf);repeat((first|refine Ct ‹_› ?_|refine Cf ‹_› ?_|refine Ct rfl ?_|refine Cf rfl ?_|refine Bi rfl ?_|refine Bz rfl ?_|refine Lr ?_);conv=>whnf))
    refine ⟨?_, rfl, rfl⟩
    rw [szS, if_pos g]; rfl
  have g := of_decide_eq_false g
  rw [szS, if_neg g]
  ((conv=>whnf);repeat((first|refine Ct ‹_› ?_|refine Cf ‹_› ?_|refine Ct rfl ?_|refine Cf rfl ?_|refine Bi rfl ?_|refine Bz rfl ?_|refine Lr ?_);conv=>whnf))
  refine WLoop_v ⟨[0, 1, 5], [], []⟩ (fun p : Int × Int => hdS 27 [(0, .v (.one (roK l))), (1, .v (vI p.2)), (5, .v (vI p.1))] [] [])
    (fun k p => 0 ≤ p.1 ∧ p.1 + k = l.length ∧ (0 ≤ p.2 ∧ p.2 ≤ 1048576) ∧ szL szK l (left - l.length) = szL szK (l.drop p.1.toNat) p.2) l.length (0, left - l.length) rfl ⟨by omega, by omega, ⟨by omega, by omega⟩, rfl⟩ ?_
  rintro k ⟨i, x⟩ ⟨a1, a2, ⟨a3, a4⟩, a5⟩
  simp only at a1 a2 a3 a4 a5
  ((conv=>whnf);repeat((first|refine Ct ‹_› ?_|refine Cf ‹_› ?_|refine Ct rfl ?_|refine Cf rfl ?_|refine Bi rfl ?_|refine Bz rfl ?_|refine Lr ?_);conv=>whnf))
  refine Cnd_i (fun h => ?_) (fun h => ?_)
  · have hi' : i < l.length := of_decide_eq_true h
    have hb := szK_b (t := l.getD i.toNat Knd.d) a3 a4
    rw [drop_get (d := Knd.d) a1 hi'] at a5
    ((conv=>whnf);repeat((first|refine Ct ‹_› ?_|refine Cf ‹_› ?_|refine Ct rfl ?_|refine Cf rfl ?_|refine Bi rfl ?_|refine Bz rfl ?_|refine Lr ?_);conv=>whnf))
    refine Bnd_i ⟨a1, hi'⟩ ?_
    ((conv=>whnf);repeat((first|refine Ct ‹_› ?_|refine Cf ‹_› ?_|refine Ct rfl ?_|refine Cf rfl ?_|refine Bi rfl ?_|refine Bz rfl ?_|refine Lr ?_);conv=>whnf))
    refine CallQ_some (F_szKind (l.getD i.toNat Knd.d) (ho _ (getD_memT a1 hi')) x a3 a4) rfl rfl ?_
    ((conv=>whnf);repeat((first|refine Ct ‹_› ?_|refine Cf ‹_› ?_|refine Ct rfl ?_|refine Cf rfl ?_|refine Bi rfl ?_|refine Bz rfl ?_|refine Lr ?_);conv=>whnf))
    refine Cnd_i (fun g2 => ?_) (fun g2 => ?_)
    · have g2 := of_decide_eq_true g2
      ((conv=>whnf);repeat((first|refine Ct ‹_› ?_|refine Cf ‹_› ?_|refine Ct rfl ?_|refine Cf rfl ?_|refine Bi rfl ?_|refine Bz rfl ?_|refine Lr ?_);conv=>whnf))
      refine ⟨?_, rfl, rfl⟩
      rw [a5, szL, if_pos g2]; rfl
    · have g2 := of_decide_eq_false g2
      ((conv=>whnf);repeat((first|refine Ct ‹_› ?_|refine Cf ‹_› ?_|refine Ct rfl ?_|refine Cf rfl ?_|refine Bi rfl ?_|refine Bz rfl ?_|refine Lr ?_);conv=>whnf))
      refine ⟨k - 1, (IntKind.i64.wrap (i + 1), szK (l.getD i.toNat Knd.d) x), rfl, ?_, ?_, ?_, ⟨?_, hb.1⟩, ?_⟩
      · omega
      · simp only; rw [wrapI (by omega)]; omega
      · simp only; rw [wrapI (by omega)]; omega
      · simp only; omega
      · simp only; rw [wrapI (by omega), a5, szL, if_neg g2]
  · have hi' := of_decide_eq_false h
    ((conv=>whnf);repeat((first|refine Ct ‹_› ?_|refine Cf ‹_› ?_|refine Ct rfl ?_|refine Cf rfl ?_|refine Bi rfl ?_|refine Bz rfl ?_|refine Lr ?_);conv=>whnf))
    refine ⟨?_, rfl, rfl⟩
    have : l.drop i.toNat = [] := by rw [List.drop_eq_nil_iff]; omega
    rw [a5, this]; rfl

theorem szL_b {α : Type} {f : α → Int → Int} (hf : ∀ a x, 0 ≤ x → x ≤ 1048576 → f a x ≤ 1048576) : ∀ (l : List α) (x : Int), 0 ≤ x → x ≤ 1048576 → szL f l x ≤ 1048576
  | [], _, _, h => h
  | a :: l, x, h0, h1 => by
    unfold szL
    by_cases g : f a x < 0
    · rw [if_pos g]; omega
    · rw [if_neg g]; exact szL_b hf l _ (by omega) (hf a x h0 h1)

theorem szS_b {α : Type} {f : α → Int → Int} (hf : ∀ a x, 0 ≤ x → x ≤ 1048576 → f a x ≤ 1048576) (l : List α) {x : Int} (h0 : 0 ≤ x) (h1 : x ≤ 1048576) : szS f l x ≤ 1048576 := by
  unfold szS
  by_cases g : x - l.length < 0
  · rw [if_pos g]; omega
  · rw [if_neg g]; exact szL_b hf l _ (by omega) (by omega)

def szR (r : Rul) (left : Int) : Int := if szS szT r.ter left < 0 then -1 else if szS szK r.knd (szS szT r.ter left) < 0 then -1 else szS szK r.knd (szS szT r.ter left)

theorem F_szRules (r : Rul) (ho : r.Ok) (left : Int) (h0 : 0 ≤ left) (h1 : left ≤ 1048576) : Fun E0 24 [.agg r.cs, vI left] [] (.v (vI (szR r left))) [] [] := by
  have b1 := szS_b (f := szT) (fun t x a b => (szT_b a b).1) r.ter h0 h1
  refine Fun_of_xc k24 rfl rfl (fun k q h => by cases h) ?_
  ((conv=>whnf);repeat((first|refine Ct ‹_› ?_|refine Cf ‹_› ?_|refine Ct rfl ?_|refine Cf rfl ?_|refine Bi rfl ?_|refine Bz rfl ?_|refine Lr ?_);conv=>whnf))
  refine CallQ_some (F_szTerrainS r.ter ho.lter ho.ter left h0 h1) rfl rfl ?_
  ((conv=>whnf);repeat((first|refine Ct ‹_› ?_|refine Cf ‹_› ?_|refine Ct rfl ?_|refine Cf rfl ?_|refine Bi rfl ?_|refine Bz rfl ?_|refine Lr ?_);conv=>whnf))
  refine Cnd_i (fun g => ?_) (fun g => ?_)
  · have g := of_decide_eq_true g
    ((conv=>whnf);repeat((first|refine Ct ‹_› ?_|refine Cf ‹_› ?_|refine Ct rfl ?_|refine Cf rfl ?_|refine Bi rfl ?_|refine Bz rfl ?_|refine Lr ?_);conv=>whnf))
    refine ⟨?_, rfl, rfl⟩
    rw [szR, if_pos g]; rfl
  have g := of_decide_eq_false g
  ((conv=>whnf);repeat((first|refine Ct ‹_› ?_|refine Cf ‹_› ?_|refine Ct rfl ?_|refine Cf rfl ?_|refine Bi rfl ?_|refine Bz rfl ?_|refine Lr ?_);conv=>whnf))
  refine CallQ_some (F_szKindS r.knd ho.lknd ho.knd _ (by omega) b1) rfl rfl ?_
  ((conv=>whnf);repeat((first|refine Ct ‹_› ?_|refine Cf ‹_› ?_|refine Ct rfl ?_|refine Cf rfl ?_|refine Bi rfl ?_|refine Bz rfl ?_|refine Lr ?_);conv=>whnf))
  refine Cnd_i (fun g2 => ?_) (fun g2 => ?_)
  · have g2 := of_decide_eq_true g2
    ((conv=>whnf);repeat((first|refine Ct ‹_› ?_|refine Cf ‹_› ?_|refine Ct rfl ?_|refine Cf rfl ?_|refine Bi rfl ?_|refine Bz rfl ?_|refine Lr ?_);conv=>whnf))
    refine ⟨?_, rfl, rfl⟩
    rw [szR, if_neg g, if_pos g2]; rfl
  · have g2 := of_decide_eq_false g2
    ((conv=>whnf);repeat((first|refine Ct ‹_› ?_|refine Cf ‹_› ?_|refine Ct rfl ?_|refine Cf rfl ?_|refine Bi rfl ?_|refine Bz rfl ?_|refine Lr ?_);conv=>whnf))
    refine ⟨?_, rfl, rfl⟩
    rw [szR, if_neg g, if_neg g2]; rfl

def szM (m : Map) (left : Int) : Int := if sub1 left m.ter.length < 0 then -1 else if sub1 (sub1 left m.ter.length) m.riv.length < 0 then -1 else sub1 (sub1 (sub1 left m.ter.length) m.riv.length) m.roa.length

theorem F_szMap (m : Map) (ho : m.Ok) (left : Int) (h0 : 0 ≤ left) (h1 : left ≤ 1048576) : Fun E0 25 [.agg m.cs, vI left] [] (.v (vI (szM m left))) [] [] := by
  have b1 := sub1_b (n := m.ter.length) h0 h1 (by omega)
  refine Fun_of_xc k25 rfl rfl (fun k q h => by cases h) ?_
  ((conv=>whnf);repeat((first|refine Ct ‹_› ?_|refine Cf ‹_› ?_|refine Ct rfl ?_|refine Cf rfl ?_|refine Bi rfl ?_|refine Bz rfl ?_|refine Lr ?_);conv=>whnf))
  refine CallQ_some (F_szIntS m.ter left ho.ter.len h0 h1) rfl rfl ?_
  ((conv=>whnf);repeat((first|refine Ct ‹_› ?_|refine Cf ‹_› ?_|refine Ct rfl ?_|refine Cf rfl ?_|refine Bi rfl ?_|refine Bz rfl ?_|refine Lr ?_);conv=>whnf))
  refine Cnd_i (fun g => ?_) (fun g => ?_)
  · have g := of_decide_eq_true g
    ((conv=>whnf);repeat((first|refine Ct ‹_› ?_|refine Cf ‹_› ?_|refine Ct rfl ?_|refine Cf rfl ?_|refine Bi rfl ?_|refine Bz rfl ?_|refine Lr ?_);conv=>whnf))
    refine ⟨?_, rfl, rfl⟩
    rw [szM, if_pos g]; rfl
  have g := of_decide_eq_false g
  have b2 := sub1_b (left := sub1 left m.ter.length) (n := m.riv.length) (by omega) (by omega) (by omega)
  ((conv=>whnf);repeat((first|refine Ct ‹_› ?_|refine Cf ‹_› ?_|refine Ct rfl ?_|refine Cf rfl ?_|refine Bi rfl ?_|refine Bz rfl ?_|refine Lr ?_);conv=>whnf))
  refine CallQ_some (F_szIntS m.riv _ ho.riv.len (by omega) (by omega)) rfl rfl ?_
  ((conv=>whnf);repeat((first|refine Ct ‹_› ?_|refine Cf ‹_› ?_|refine Ct rfl ?_|refine Cf rfl ?_|refine Bi rfl ?_|refine Bz rfl ?_|refine Lr ?_);conv=>whnf))
  refine Cnd_i (fun g2 => ?_) (fun g2 => ?_)
  · have g2 := of_decide_eq_true g2
    ((conv=>whnf);repeat((first|refine Ct ‹_› ?_|refine Cf ‹_› ?_|refine Ct rfl ?_|refine Cf rfl ?_|refine Bi rfl ?_|refine Bz rfl ?_|refine Lr ?_);conv=>whnf))
    refine ⟨?_, rfl, rfl⟩
    rw [szM, if_neg g, if_pos g2]; rfl
  have g2 := of_decide_eq_false g2
  have b3 := sub1_b (left := sub1 (sub1 left m.ter.length) m.riv.length) (n := m.roa.length) (by omega) (by omega) (by omega)
  ((conv=>whnf);repeat((first|refine Ct ‹_› ?_|refine Cf ‹_› ?_|refine Ct rfl ?_|refine Cf rfl ?_|refine Bi rfl ?_|refine Bz rfl ?_|refine Lr ?_);conv=>whnf))
  refine CallQ_some (F_szIntS m.roa _ ho.roa.len (by omega) (by omega)) rfl rfl ?_
  ((conv=>whnf);repeat((first|refine Ct ‹_› ?_|refine Cf ‹_› ?_|refine Ct rfl ?_|refine Cf rfl ?_|refine Bi rfl ?_|refine Bz rfl ?_|refine Lr ?_);conv=>whnf))
  refine Cnd_i (fun g3 => ?_) (fun g3 => ?_)
  · have g3 := of_decide_eq_true g3
    ((conv=>whnf);repeat((first|refine Ct ‹_› ?_|refine Cf ‹_› ?_|refine Ct rfl ?_|refine Cf rfl ?_|refine Bi rfl ?_|refine Bz rfl ?_|refine Lr ?_);conv=>whnf))
    refine ⟨?_, rfl, rfl⟩
    have : sub1 (sub1 (sub1 left m.ter.length) m.riv.length) m.roa.length = -1 := by omega
    rw [szM, if_neg g, if_neg g2, this]; rfl
  · ((conv=>whnf);repeat((first|refine Ct ‹_› ?_|refine Cf ‹_› ?_|refine Ct rfl ?_|refine Cf rfl ?_|refine Bi rfl ?_|refine Bz rfl ?_|refine Lr ?_);conv=>whnf))
    refine ⟨?_, rfl, rfl⟩
    rw [szM, if_neg g, if_neg g2]; rfl

theorem szR_b {r : Rul} {left : Int} (h0 : 0 ≤ left) (h1 : left ≤ 1048576) : szR r left ≤ 1048576 := by
  have b1 := szS_b (f := szT) (fun t x a b => (szT_b a b).1) r.ter h0 h1
  unfold szR
  by_cases g : szS szT r.ter left < 0
  · rw [if_pos g]; omega
  · rw [if_neg g]
    have b2 := szS_b (f := szK) (fun t x a b => (szK_b a b).1) r.knd (x := szS szT r.ter left) (by omega) b1
    by_cases g2 : szS szK r.knd (szS szT r.ter left) < 0
    · rw [if_pos g2]; omega
    · rw [if_neg g2]; exact b2

def szB (b : Brd) (left : Int) : Int := if szR b.r left < 0 then -1 else if szM b.m (szR b.r left) < 0 then -1 else szM b.m (szR b.r left)

theorem F_szBoard (b : Brd) (ho : b.Ok) (left : Int) (h0 : 0 ≤ left) (h1 : left ≤ 1048576) : Fun E0 6 [.agg b.cs, vI left] [] (.v (vI (szB b left))) [] [] := by
  have b1 := szR_b (r := b.r) h0 h1
  refine Fun_of_xc k6 rfl rfl (fun k q h => by cases h) ?_
  ((conv=>whnf);repeat((first|refine Ct ‹_› ?_|refine Cf ‹_› ?_|refine Ct rfl ?_|refine Cf rfl ?_|refine Bi rfl ?_|refine Bz rfl ?_|refine Lr ?_);conv=>whnf))
  refine CallQ_some (F_szRules b.r ho.r left h0 h1) rfl rfl ?_
  ((conv=>whnf);repeat((first|refine Ct ‹_› ?_|refine Cf ‹_› ?_|refine Ct rfl ?_|refine Cf rfl ?_|refine Bi rfl ?_|refine Bz rfl ?_|refine Lr ?_);conv=>whnf))
  refine Cnd_i (fun g => ?_) (fun g => ?_)
  · have g := of_decide_eq_true g
    ((conv=>whnf);repeat((first|refine Ct ‹_› ?_|refine Cf ‹_› ?_|refine Ct rfl ?_|refine Cf rfl ?_|refine Bi rfl ?_|refine Bz rfl ?_|refine Lr ?_);conv=>whnf))
    refine ⟨?_, rfl, rfl⟩
    rw [szB, if_pos g]; rfl
  have g := of_decide_eq_false g
  ((conv=>whnf);repeat((first|refine Ct ‹_› ?_|refine Cf ‹_› ?_|refine Ct rfl ?_|refine Cf rfl ?_|refine Bi rfl ?_|refine Bz rfl ?_|refine Lr ?_);conv=>whnf))
  refine CallQ_some (F_szMap b.m ho.m _ (by omega) b1) rfl rfl ?_
  ((conv=>whnf);repeat((first|refine Ct ‹_› ?_|refine Cf ‹_› ?_|refine Ct rfl ?_|refine Cf rfl ?_|refine Bi rfl ?_|refine Bz rfl ?_|refine Lr ?_);conv=>whnf))
  refine Cnd_i (fun g2 => ?_) (fun g2 => ?_)
  · have g2 := of_decide_eq_true g2
    ((conv=>whnf);repeat((first|refine Ct ‹_› ?_|refine Cf ‹_› ?_|refine Ct rfl ?_|refine Cf rfl ?_|refine Bi rfl ?_|refine Bz rfl ?_|refine Lr ?_);conv=>whnf))
    refine ⟨?_, rfl, rfl⟩
    rw [szB, if_neg g, if_pos g2]; rfl
  · have g2 := of_decide_eq_false g2
    ((conv=>whnf);repeat((first|refine Ct ‹_› ?_|refine Cf ‹_› ?_|refine Ct rfl ?_|refine Cf rfl ?_|refine Bi rfl ?_|refine Bz rfl ?_|refine Lr ?_);conv=>whnf))
    refine ⟨?_, rfl, rfl⟩
    rw [szB, if_neg g, if_neg g2]; rfl

/-- a row of numbers of one's own -/
abbrev rwI (l : List Int) : Row := ⟨false, 1, l.length, fun i _ => cI (l.getD i 0)⟩

/-- a row that is being filled -/
abbrev rwIu (l : List Int) (k : Int) : Row := ⟨false, 1, l.length, fun i _ => cI (if (i : Int) < k then l.getD i 0 else 0)⟩

theorem rwIu_full (l : List Int) : rwIu l (l.length : Int) = rwI l := by
  unfold rwIu rwI
  congr 1
  funext i j
  by_cases e : (i : Int) < l.length
  · rw [if_pos e]
  · rw [if_neg e]
    have : l.getD i 0 = 0 := by
      rw [List.getD_eq_getElem?_getD, List.getElem?_eq_none (by omega)]; rfl
    rw [this]

theorem noRo1 {k0 : Nat} {r : Row} (h : NoRo r) : ∀ k q, lk ([(k0, r)] ++ []) k = some q → NoRo q := by
  intro k q hk
  have hk : lk [(k0, r)] k = some q := by simpa using hk
  rw [lk_cons] at hk
  split at hk
  · cases hk; exact h
  · cases hk

theorem F_toIntS (l : List Int) (hl : l.length ≤ 1048576) : Fun E0 15 [.one (roI l)] [] (.v (.one (.own 0 l.length))) [(0, rwI l)] [] := by
  refine Fun_of_xc k15 rfl rfl (noRo1 (fun i j _ _ => rfl)) ?_
  ((conv=>whnf);repeat((first|refine Ct ‹_› ?_|refine Cf ‹_› ?_|refine Ct rfl ?_|refine Cf rfl ?_|refine Bi rfl ?_|refine Bz rfl ?_|refine Lr ?_);conv=>whnf))
  refine Rw_self ?_
  ((conv=>whnf);repeat((first|refine Ct ‹_› ?_|refine Cf ‹_› ?_|refine Ct rfl ?_|refine Cf rfl ?_|refine Bi rfl ?_|refine Bz rfl ?_|refine Lr ?_);conv=>whnf))
  refine Bnd_i (by omega) ?_
  ((conv=>whnf);repeat((first|refine Ct ‹_› ?_|refine Cf ‹_› ?_|refine Ct rfl ?_|refine Cf rfl ?_|refine Bi rfl ?_|refine Bz rfl ?_|refine Lr ?_);conv=>whnf))
  refine Rw_i (rwIu l 0) ⟨rfl, rfl, by simp [zeroRow], fun i j hi hj => ?_⟩ ?_
  · have hj : j < 1 := hj
    obtain rfl : j = 0 := by omega
    show cI 0 = cI (if (i : Int) < 0 then l.getD i 0 else 0)
    rw [if_neg (by omega)]
  ((conv=>whnf);repeat((first|refine Ct ‹_› ?_|refine Cf ‹_› ?_|refine Ct rfl ?_|refine Cf rfl ?_|refine Bi rfl ?_|refine Bz rfl ?_|refine Lr ?_);conv=>whnf))
  refine WLoop_v ⟨[0, 3, 4], [], []⟩ (fun i : Int => hdS 22 [(0, .v (.one (roI l))), (3, .v (.one (.own (vkey 3) l.length))), (4, .v (vI i))] [] [(vkey 3, rwIu l i)])
    (fun k i => 0 ≤ i ∧ i + k = l.length) l.length 0 rfl ⟨by omega, by omega⟩ ?_
  rintro k i ⟨h1, h2⟩
  ((conv=>whnf);repeat((first|refine Ct ‹_› ?_|refine Cf ‹_› ?_|refine Ct rfl ?_|refine Cf rfl ?_|refine Bi rfl ?_|refine Bz rfl ?_|refine Lr ?_);conv=>whnf))
  refine Cnd_i (fun h => ?_) (fun h => ?_)
  · have hi' : i < l.length := of_decide_eq_true h
    ((conv=>whnf);repeat((first|refine Ct ‹_› ?_|refine Cf ‹_› ?_|refine Ct rfl ?_|refine Cf rfl ?_|refine Bi rfl ?_|refine Bz rfl ?_|refine Lr ?_);conv=>whnf))
    refine Bnd_i ⟨h1, hi'⟩ ?_
    ((conv=>whnf);repeat((first|refine Ct ‹_› ?_|refine Cf ‹_› ?_|refine Ct rfl ?_|refine Cf rfl ?_|refine Bi rfl ?_|refine Bz rfl ?_|refine Lr ?_);conv=>whnf))
    refine Bnd_i ⟨h1, hi'⟩ ?_
    ((conv=>whnf);repeat((first|refine Ct ‹_› ?_|refine Cf ‹_› ?_|refine Ct rfl ?_|refine Cf rfl ?_|refine Bi rfl ?_|refine Bz rfl ?_|refine Lr ?_);conv=>whnf))
    refine Rw_i (rwIu l (i + 1)) ⟨rfl, rfl, rfl, fun i' j hi hj => ?_⟩ ?_
    · have hj : j < 1 := hj
      obtain rfl : j = 0 := by omega
      show wrG (rwIu l i).get i.toNat 0 [cI (l.getD i.toNat 0)] i' 0 = cI (if (i' : Int) < i + 1 then l.getD i' 0 else 0)
      by_cases e : i' = i.toNat
      · subst e
        rw [wrG_in (by simp), if_pos (by omega)]; rfl
      · rw [wrG_out (fun hh => e hh.1)]
        show cI (if (i' : Int) < i then l.getD i' 0 else 0) = _
        by_cases e2 : (i' : Int) < i
        · rw [if_pos e2, if_pos (by omega)]
        · rw [if_neg e2, if_neg (by omega)]
    ((conv=>whnf);repeat((first|refine Ct ‹_› ?_|refine Cf ‹_› ?_|refine Ct rfl ?_|refine Cf rfl ?_|refine Bi rfl ?_|refine Bz rfl ?_|refine Lr ?_);conv=>whnf))
    refine ⟨k - 1, i + 1, ?_, ?_, ?_, ?_⟩
    · rw [wrapI (by omega)]; rfl
    · omega
    · omega
    · omega
  · have hi' := of_decide_eq_false h
    ((conv=>whnf);repeat((first|refine Ct ‹_› ?_|refine Cf ‹_› ?_|refine Ct rfl ?_|refine Cf rfl ?_|refine Bi rfl ?_|refine Bz rfl ?_|refine Lr ?_);conv=>whnf))
    obtain rfl : i = (l.length : Int) := by omega
    rw [rwIu_full]
    exact ⟨rfl, rfl, rfl⟩

theorem nrN : ∀ k q, lk ([] : Ob) k = some q → NoRo q := fun _ _ h => by cases h

theorem nrC {k0 : Nat} {r : Row} {l : Ob} (h : NoRo r) (hl : ∀ k q, lk l k = some q → NoRo q) : ∀ k q, lk ((k0, r) :: l) k = some q → NoRo q := by
  intro k q hk
  rw [lk_cons] at hk
  split at hk
  · cases hk; exact h
  · exact hl k q hk

theorem rwI_no (l : List Int) : NoRo (rwI l) := fun _ _ _ _ => rfl

theorem F_toTerrain (t : Ter) (hc : t.cost.length ≤ 1048576) : Fun E0 97 [.agg t.cs] [] (.v (.agg [.str t.name, .own 1 t.cost.length, cI t.shift, cI t.height, .bool t.blocks])) [(1, rwI t.cost)] [] := by
  refine Fun_of_xc k97 rfl rfl (nrC (rwI_no _) nrN) ?_
  ((conv=>whnf);repeat((first|refine Ct ‹_› ?_|refine Cf ‹_› ?_|refine Ct rfl ?_|refine Cf rfl ?_|refine Bi rfl ?_|refine Bz rfl ?_|refine Lr ?_);conv=>whnf))
  refine CallQ_some (F_toIntS t.cost hc) rfl rfl ?_
  ((conv=>whnf);repeat((first|refine Ct ‹_› ?_|refine Cf ‹_› ?_|refine Ct rfl ?_|refine Cf rfl ?_|refine Bi rfl ?_|refine Bz rfl ?_|refine Lr ?_);conv=>whnf))
  exact ⟨rfl, rfl, rfl⟩

/-- a terrain in a row of one's own -/
abbrev Ter.cw (t : Ter) : List Cell := [.str t.name, .fr 1 t.cost.length fun i _ => cI (t.cost.getD i 0), cI t.shift, cI t.height, .bool t.blocks]

abbrev Ter.cz : List Cell := [.str ⟨#[]⟩, .ro 1 0 nog, cI 0, cI 0, .bool false]

abbrev rwT (l : List Ter) : Row := ⟨true, 5, l.length, fun i j => nth (l.getD i Ter.d).cw j⟩

abbrev rwTu (l : List Ter) (k : Int) : Row := ⟨true, 5, l.length, fun i j => if (i : Int) < k ∨ l.length ≤ i then nth (l.getD i Ter.d).cw j else nth Ter.cz j⟩

theorem rwT_no (l : List Ter) : NoRo (rwT l) := by
  intro i j _ hj
  have hj : j < 5 := hj
  match j, hj with
  | 0, _ => rfl
  | 1, _ => exact fun _ _ _ _ => rfl
  | 2, _ => rfl
  | 3, _ => rfl
  | 4, _ => rfl

theorem F_toTerrainS (l : List Ter) (hl : l.length ≤ 1048576) (hc : ∀ t ∈ l, t.cost.length ≤ 1048576) : Fun E0 63 [.one (roT l)] [] (.v (.one (.own 0 l.length))) [(0, rwT l)] [] := by
  refine Fun_of_xc k63 rfl rfl (nrC (rwT_no _) nrN) ?_
  ((conv=>whnf);repeat((first|refine Ct ‹_› ?_|refine Cf ‹_› ?_|refine Ct rfl ?_|refine Cf rfl ?_|refine Bi rfl ?_|refine Bz rfl ?_|refine Lr ?_);conv=>whnf))
  refine Rw_self ?_
  ((conv=>whnf);repeat((first|refine Ct ‹_› ?_|refine Cf ‹_› ?_|refine Ct rfl ?_|refine Cf rfl ?_|refine Bi rfl ?_|refine Bz rfl ?_|refine Lr ?_);conv=>whnf))
  refine Bnd_i (by omega) ?_
  ((conv=>whnf);repeat((first|refine Ct ‹_› ?_|refine Cf ‹_› ?_|refine Ct rfl ?_|refine Cf rfl ?_|refine Bi rfl ?_|refine Bz rfl ?_|refine Lr ?_);conv=>whnf))
  refine Rw_i (rwTu l 0) ⟨rfl, rfl, by simp [zeroRow], fun i j hi hj => ?_⟩ ?_
  · have hi : i < l.length := by simpa [zeroRow] using hi
    show nth Ter.cz j = if (i : Int) < 0 ∨ l.length ≤ i then nth (l.getD i Ter.d).cw j else nth Ter.cz j
    rw [if_neg (by omega)]
  ((conv=>whnf);repeat((first|refine Ct ‹_› ?_|refine Cf ‹_› ?_|refine Ct rfl ?_|refine Cf rfl ?_|refine Bi rfl ?_|refine Bz rfl ?_|refine Lr ?_);conv=>whnf))
  refine WLoop_v ⟨[0, 3, 4], [], []⟩ (fun i : Int => hdS 23 [(0, .v (.one (roT l))), (3, .v (.one (.own (vkey 3) l.length))), (4, .v (vI i))] [] [(vkey 3, rwTu l i)])
    (fun k i => 0 ≤ i ∧ i + k = l.length) l.length 0 rfl ⟨by omega, by omega⟩ ?_
  rintro k i ⟨h1, h2⟩
  ((conv=>whnf);repeat((first|refine Ct ‹_› ?_|refine Cf ‹_› ?_|refine Ct rfl ?_|refine Cf rfl ?_|refine Bi rfl ?_|refine Bz rfl ?_|refine Lr ?_);conv=>whnf))
  refine Cnd_i (fun h => ?_) (fun h => ?_)
  · have hi' : i < l.length := of_decide_eq_true h
    ((conv=>whnf);repeat((first|refine Ct ‹_› ?_|refine Cf ‹_› ?_|refine Ct rfl ?_|refine Cf rfl ?_|refine Bi rfl ?_|refine Bz rfl ?_|refine Lr ?_);conv=>whnf))
    refine Bnd_i ⟨h1, hi'⟩ ?_
    ((conv=>whnf);repeat((first|refine Ct ‹_› ?_|refine Cf ‹_› ?_|refine Ct rfl ?_|refine Cf rfl ?_|refine Bi rfl ?_|refine Bz rfl ?_|refine Lr ?_);conv=>whnf))
    refine CallQ_some (F_toTerrain (l.getD i.toNat Ter.d) (hc _ (getD_memT h1 hi'))) rfl rfl ?_
    ((conv=>whnf);repeat((first|refine Ct ‹_› ?_|refine Cf ‹_› ?_|refine Ct rfl ?_|refine Cf rfl ?_|refine Bi rfl ?_|refine Bz rfl ?_|refine Lr ?_);conv=>whnf))
    refine Bnd_i ⟨h1, hi'⟩ ?_
    ((conv=>whnf);repeat((first|refine Ct ‹_› ?_|refine Cf ‹_› ?_|refine Ct rfl ?_|refine Cf rfl ?_|refine Bi rfl ?_|refine Bz rfl ?_|refine Lr ?_);conv=>whnf))
    refine Rw_i (rwTu l (i + 1)) ⟨rfl, rfl, rfl, fun i' j hi hj => ?_⟩ ?_
    · have hj : j < 5 := hj
      have hi : i' < l.length := hi
      show wrG (rwTu l i).get i.toNat 0 (l.getD i.toNat Ter.d).cw i' j = if (i' : Int) < i + 1 ∨ l.length ≤ i' then nth (l.getD i' Ter.d).cw j else nth Ter.cz j
      by_cases e : i' = i.toNat
      · subst e
        rw [wrG_in (by simp; omega), if_pos (by omega)]; rfl
      · rw [wrG_out (fun hh => e hh.1)]
        show (if (i' : Int) < i ∨ l.length ≤ i' then nth (l.getD i' Ter.d).cw j else nth Ter.cz j) = _
        by_cases e2 : (i' : Int) < i
        · rw [if_pos (.inl e2), if_pos (.inl (by omega))]
        · rw [if_neg (by omega), if_neg (by omega)]
    ((conv=>whnf);repeat((first|refine Ct ‹_› ?_|refine Cf ‹_› ?_|refine Ct rfl ?_|refine Cf rfl ?_|refine Bi rfl ?_|refine Bz rfl ?_|refine Lr ?_);conv=>whnf))
    refine ⟨k - 1, i + 1, ?_, ?_, ?_, ?_⟩
    · rw [wrapI (by omega)]; rfl
    · omega
    · omega
    · omega
  · have hi' := of_decide_eq_false h
    ((conv=>whnf);repeat((first|refine Ct ‹_› ?_|refine Cf ‹_› ?_|refine Ct rfl ?_|refine Cf rfl ?_|refine Bi rfl ?_|refine Bz rfl ?_|refine Lr ?_);conv=>whnf))
    have e : rwTu l i = rwT l := by
      unfold rwTu rwT
      congr 1
      funext i' j
      rw [if_pos (by omega)]
    rw [e]
    exact ⟨rfl, rfl, rfl⟩

theorem F_toKind (t : Knd) : Fun E0 98 [.agg t.cs] [] (.v (.agg t.cs)) [] [] := by
  refine Fun_of_xc k98 rfl rfl (fun k q h => by cases h) ?_
  ((conv=>whnf);repeat((first|refine Ct ‹_› ?_|refine Cf ‹_› ?_|refine Ct rfl ?_|refine Cf rfl ?_|refine Bi rfl ?_|refine Bz rfl ?_|refine Lr ?_);conv=>whnf))
  exact ⟨rfl, rfl, rfl⟩

abbrev Knd.cz : List Cell := [.str ⟨#[]⟩, cI 0, cI 0, cI 0, .bool false, cI 0]

abbrev rwK (l : List Knd) : Row := ⟨false, 6, l.length, fun i j => nth (l.getD i Knd.d).cs j⟩

abbrev rwKu (l : List Knd) (k : Int) : Row := ⟨false, 6, l.length, fun i j => if (i : Int) < k ∨ l.length ≤ i then nth (l.getD i Knd.d).cs j else nth Knd.cz j⟩

theorem rwK_no (l : List Knd) : NoRo (rwK l) := by
  intro i j _ hj
  have hj : j < 6 := hj
  match j, hj with
  | 0, _ => rfl
  | 1, _ => rfl
  | 2, _ => rfl
  | 3, _ => rfl
  | 4, _ => rfl
  | 5, _ => rfl

theorem F_toKindS (l : List Knd) (hl : l.length ≤ 1048576) : Fun E0 64 [.one (roK l)] [] (.v (.one (.own 0 l.length))) [(0, rwK l)] [] := by
  refine Fun_of_xc k64 rfl rfl (nrC (rwK_no _) nrN) ?_
  ((conv=>whnf);repeat((first|refine Ct ‹_› ?_|refine Cf ‹_› ?_|refine Ct rfl ?_|refine Cf rfl ?_|refine Bi rfl ?_|refine Bz rfl ?_|refine Lr ?_);conv=>whnf))
  refine Rw_self ?_
  ((conv=>whnf);repeat((first|refine Ct ‹_› ?_|refine Cf ‹_› ?_|refine Ct rfl ?_|refine Cf rfl ?_|refine Bi rfl ?_|refine Bz rfl ?_|refine Lr ?_);conv=>whnf))
  refine Bnd_i (by omega) ?_
  ((conv=>whnf);repeat((first|refine Ct ‹_› ?_|refine Cf ‹_› ?_|refine Ct rfl ?_|refine Cf rfl ?_|refine Bi rfl ?_|refine Bz rfl ?_|refine Lr ?_);conv=>whnf))
  refine Rw_i (rwKu l 0) ⟨rfl, rfl, by simp [zeroRow], fun i j hi hj => ?_⟩ ?_
  · have hi : i < l.length := by simpa [zeroRow] using hi
    show nth Knd.cz j = if (i : Int) < 0 ∨ l.length ≤ i then nth (l.getD i Knd.d).cs j else nth Knd.cz j
    rw [if_neg (by omega)]
  ((conv=>whnf);repeat((first|refine Ct ‹_› ?_|refine Cf ‹_› ?_|refine Ct rfl ?_|refine Cf rfl ?_|refine Bi rfl ?_|refine Bz rfl ?_|refine Lr ?_);conv=>whnf))
  refine WLoop_v ⟨[0, 3, 4], [], []⟩ (fun i : Int => hdS 23 [(0, .v (.one (roK l))), (3, .v (.one (.own (vkey 3) l.length))), (4, .v (vI i))] [] [(vkey 3, rwKu l i)])
    (fun k i => 0 ≤ i ∧ i + k = l.length) l.length 0 rfl ⟨by omega, by omega⟩ ?_
  rintro k i ⟨h1, h2⟩
  ((conv=>whnf);repeat((first|refine Ct ‹_› ?_|refine Cf ‹_› ?_|refine Ct rfl ?_|refine Cf rfl ?_|refine Bi rfl ?_|refine Bz rfl ?_|refine Lr ?_);conv=>whnf))
  refine Cnd_i (fun h => ?_) (fun h => ?_)
  · have hi' : i < l.length := of_decide_eq_true h
    ((conv=>whnf);repeat((first|refine Ct ‹_› ?_|refine Cf ‹_› ?_|refine Ct rfl ?_|refine Cf rfl ?_|refine Bi rfl ?_|refine Bz rfl ?_|refine Lr ?_);conv=>whnf))
    refine Bnd_i ⟨h1, hi'⟩ ?_
    ((conv=>whnf);repeat((first|refine Ct ‹_› ?_|refine Cf ‹_› ?_|refine Ct rfl ?_|refine Cf rfl ?_|refine Bi rfl ?_|refine Bz rfl ?_|refine Lr ?_);conv=>whnf))
    refine CallQ_some (F_toKind (l.getD i.toNat Knd.d)) rfl rfl ?_
    ((conv=>whnf);repeat((first|refine Ct ‹_› ?_|refine Cf ‹_› ?_|refine Ct rfl ?_|refine Cf rfl ?_|refine Bi rfl ?_|refine Bz rfl ?_|refine Lr ?_);conv=>whnf))
    refine Bnd_i ⟨h1, hi'⟩ ?_
    ((conv=>whnf);repeat((first|refine Ct ‹_› ?_|refine Cf ‹_› ?_|refine Ct rfl ?_|refine Cf rfl ?_|refine Bi rfl ?_|refine Bz rfl ?_|refine Lr ?_);conv=>whnf))
    refine Rw_i (rwKu l (i + 1)) ⟨rfl, rfl, rfl, fun i' j hi hj => ?_⟩ ?_
    · have hj : j < 6 := hj
      have hi : i' < l.length := hi
      show wrG (rwKu l i).get i.toNat 0 (l.getD i.toNat Knd.d).cs i' j = if (i' : Int) < i + 1 ∨ l.length ≤ i' then nth (l.getD i' Knd.d).cs j else nth Knd.cz j
      by_cases e : i' = i.toNat
      · subst e
        rw [wrG_in (by simp; omega), if_pos (by omega)]; rfl
      · rw [wrG_out (fun hh => e hh.1)]
        show (if (i' : Int) < i ∨ l.length ≤ i' then nth (l.getD i' Knd.d).cs j else nth Knd.cz j) = _
        by_cases e2 : (i' : Int) < i
        · rw [if_pos (.inl e2), if_pos (.inl (by omega))]
        · rw [if_neg (by omega), if_neg (by omega)]
    ((conv=>whnf);repeat((first|refine Ct ‹_› ?_|refine Cf ‹_› ?_|refine Ct rfl ?_|refine Cf rfl ?_|refine Bi rfl ?_|refine Bz rfl ?_|refine Lr ?_);conv=>whnf))
    refine ⟨k - 1, i + 1, ?_, ?_, ?_, ?_⟩
    · rw [wrapI (by omega)]; rfl
    · omega
    · omega
    · omega
  · have hi' := of_decide_eq_false h
    ((conv=>whnf);repeat((first|refine Ct ‹_› ?_|refine Cf ‹_› ?_|refine Ct rfl ?_|refine Cf rfl ?_|refine Bi rfl ?_|refine Bz rfl ?_|refine Lr ?_);conv=>whnf))
    have e : rwKu l i = rwK l := by
      unfold rwKu rwK
      congr 1
      funext i' j
      rw [if_pos (by omega)]
    rw [e]
    exact ⟨rfl, rfl, rfl⟩

/-- what a copy asks: no list of more than 2^20 elements -/
structure Rul.Sm (r : Rul) : Prop where
  ter : r.ter.length ≤ 1048576
  cost : ∀ t ∈ r.ter, t.cost.length ≤ 1048576
  knd : r.knd.length ≤ 1048576

structure Map.Sm (m : Map) : Prop where
  ter : m.ter.length ≤ 1048576
  riv : m.riv.length ≤ 1048576
  roa : m.roa.length ≤ 1048576

structure Brd.Sm (b : Brd) : Prop where
  r : b.r.Sm
  m : b.m.Sm

theorem F_toRules (r : Rul) (h : r.Sm) : Fun E0 29 [.agg r.cs] [] (.v (.agg [.own 0 r.ter.length, .own 1 r.knd.length, cI r.stack, cI r.river, cI r.road, cI r.supply, cI r.turns])) [(0, rwT r.ter), (1, rwK r.knd)] [] := by
  refine Fun_of_xc k29 rfl rfl (nrC (rwT_no _) (nrC (rwK_no _) nrN)) ?_
  ((conv=>whnf);repeat((first|refine Ct ‹_› ?_|refine Cf ‹_› ?_|refine Ct rfl ?_|refine Cf rfl ?_|refine Bi rfl ?_|refine Bz rfl ?_|refine Lr ?_);conv=>whnf))
  refine CallQ_some (F_toTerrainS r.ter h.ter h.cost) rfl rfl ?_
  ((conv=>whnf);repeat((first|refine Ct ‹_› ?_|refine Cf ‹_› ?_|refine Ct rfl ?_|refine Cf rfl ?_|refine Bi rfl ?_|refine Bz rfl ?_|refine Lr ?_);conv=>whnf))
  refine CallQ_some (F_toKindS r.knd h.knd) rfl rfl ?_
  ((conv=>whnf);repeat((first|refine Ct ‹_› ?_|refine Cf ‹_› ?_|refine Ct rfl ?_|refine Cf rfl ?_|refine Bi rfl ?_|refine Bz rfl ?_|refine Lr ?_);conv=>whnf))
  exact ⟨rfl, rfl, rfl⟩

theorem F_toMap (m : Map) (h : m.Sm) : Fun E0 30 [.agg m.cs] [] (.v (.agg [cI m.w, cI m.h, .own 2 m.ter.length, .own 3 m.riv.length, .own 4 m.roa.length])) [(2, rwI m.ter), (3, rwI m.riv), (4, rwI m.roa)] [] := by
  refine Fun_of_xc k30 rfl rfl (nrC (rwI_no _) (nrC (rwI_no _) (nrC (rwI_no _) nrN))) ?_
  ((conv=>whnf);repeat((first|refine Ct ‹_› ?_|refine Cf ‹_› ?_|refine Ct rfl ?_|refine Cf rfl ?_|refine Bi rfl ?_|refine Bz rfl ?_|refine Lr ?_);conv=>whnf))
  refine CallQ_some (F_toIntS m.ter h.ter) rfl rfl ?_
  ((conv=>whnf);repeat((first|refine Ct ‹_› ?_|refine Cf ‹_› ?_|refine Ct rfl ?_|refine Cf rfl ?_|refine Bi rfl ?_|refine Bz rfl ?_|refine Lr ?_);conv=>whnf))
  refine CallQ_some (F_toIntS m.riv h.riv) rfl rfl ?_
  ((conv=>whnf);repeat((first|refine Ct ‹_› ?_|refine Cf ‹_› ?_|refine Ct rfl ?_|refine Cf rfl ?_|refine Bi rfl ?_|refine Bz rfl ?_|refine Lr ?_);conv=>whnf))
  refine CallQ_some (F_toIntS m.roa h.roa) rfl rfl ?_
  ((conv=>whnf);repeat((first|refine Ct ‹_› ?_|refine Cf ‹_› ?_|refine Ct rfl ?_|refine Cf rfl ?_|refine Bi rfl ?_|refine Bz rfl ?_|refine Lr ?_);conv=>whnf))
  exact ⟨rfl, rfl, rfl⟩

abbrev Brd.cw (b : Brd) : List Cell := [.own 0 b.r.ter.length, .own 1 b.r.knd.length, cI b.r.stack, cI b.r.river, cI b.r.road, cI b.r.supply, cI b.r.turns, cI b.m.w, cI b.m.h, .own 9 b.m.ter.length, .own 10 b.m.riv.length, .own 11 b.m.roa.length]

abbrev Brd.rows (b : Brd) : Ob := [(0, rwT b.r.ter), (1, rwK b.r.knd), (9, rwI b.m.ter), (10, rwI b.m.riv), (11, rwI b.m.roa)]

theorem F_toBoard (b : Brd) (h : b.Sm) : Fun E0 9 [.agg b.cs] [] (.v (.agg b.cw)) b.rows [] := by
  refine Fun_of_xc k9 rfl rfl (nrC (rwT_no _) (nrC (rwK_no _) (nrC (rwI_no _) (nrC (rwI_no _) (nrC (rwI_no _) nrN))))) ?_
  ((conv=>whnf);repeat((first|refine Ct ‹_› ?_|refine Cf ‹_› ?_|refine Ct rfl ?_|refine Cf rfl ?_|refine Bi rfl ?_|refine Bz rfl ?_|refine Lr ?_);conv=>whnf))
  refine CallQ_some (F_toRules b.r h.r) rfl rfl ?_
  ((conv=>whnf);repeat((first|refine Ct ‹_› ?_|refine Cf ‹_› ?_|refine Ct rfl ?_|refine Cf rfl ?_|refine Bi rfl ?_|refine Bz rfl ?_|refine Lr ?_);conv=>whnf))
  refine CallQ_some (F_toMap b.m h.m) rfl rfl ?_
  ((conv=>whnf);repeat((first|refine Ct ‹_› ?_|refine Cf ‹_› ?_|refine Ct rfl ?_|refine Cf rfl ?_|refine Bi rfl ?_|refine Bz rfl ?_|refine Lr ?_);conv=>whnf))
  exact ⟨rfl, rfl, rfl⟩

theorem F_eqIntS (l : List Int) (hl : l.length ≤ 1048576) : Fun E0 17 [.one (roI l), .one (roI l)] [] (.v (vB true)) [] [] := by
  refine Fun_of_xc k17 rfl rfl (fun k q h => by cases h) ?_
  ((conv=>whnf);repeat((first|refine Ct ‹_› ?_|refine Cf ‹_› ?_|refine Ct rfl ?_|refine Cf rfl ?_|refine Bi rfl ?_|refine Bz rfl ?_|refine Lr ?_);conv=>whnf))
  refine Cnd_f (by simp) ?_
  ((conv=>whnf);repeat((first|refine Ct ‹_› ?_|refine Cf ‹_› ?_|refine Ct rfl ?_|refine Cf rfl ?_|refine Bi rfl ?_|refine Bz rfl ?_|refine Lr ?_);conv=>whnf))
  refine WLoop_v ⟨[0, 1, 5], [], []⟩ (fun i : Int => hdS 26 [(0, .v (.one (roI l))), (1, .v (.one (roI l))), (5, .v (vI i))] [] [])
    (fun k i => 0 ≤ i ∧ i + k = l.length) l.length 0 rfl ⟨by omega, by omega⟩ ?_
  rintro k i ⟨h1, h2⟩
  ((conv=>whnf);repeat((first|refine Ct ‹_› ?_|refine Cf ‹_› ?_|refine Ct rfl ?_|refine Cf rfl ?_|refine Bi rfl ?_|refine Bz rfl ?_|refine Lr ?_);conv=>whnf))
  refine Cnd_i (fun h => ?_) (fun h => ?_)
  · have hi' : i < l.length := of_decide_eq_true h
    ((conv=>whnf);repeat((first|refine Ct ‹_› ?_|refine Cf ‹_› ?_|refine Ct rfl ?_|refine Cf rfl ?_|refine Bi rfl ?_|refine Bz rfl ?_|refine Lr ?_);conv=>whnf))
    refine Bnd_i ⟨h1, hi'⟩ ?_
    ((conv=>whnf);repeat((first|refine Ct ‹_› ?_|refine Cf ‹_› ?_|refine Ct rfl ?_|refine Cf rfl ?_|refine Bi rfl ?_|refine Bz rfl ?_|refine Lr ?_);conv=>whnf))
    refine Bnd_i ⟨h1, hi'⟩ ?_
    ((conv=>whnf);repeat((first|refine Ct ‹_› ?_|refine Cf ‹_› ?_|refine Ct rfl ?_|refine Cf rfl ?_|refine Bi rfl ?_|refine Bz rfl ?_|refine Lr ?_);conv=>whnf))
    refine Cnd_f (by simp) ?_
    ((conv=>whnf);repeat((first|refine Ct ‹_› ?_|refine Cf ‹_› ?_|refine Ct rfl ?_|refine Cf rfl ?_|refine Bi rfl ?_|refine Bz rfl ?_|refine Lr ?_);conv=>whnf))
    refine ⟨k - 1, i + 1, ?_, ?_, ?_, ?_⟩
    · rw [wrapI (by omega)]; rfl
    · omega
    · omega
    · omega
  · ((conv=>whnf);repeat((first|refine Ct ‹_› ?_|refine Cf ‹_› ?_|refine Ct rfl ?_|refine Cf rfl ?_|refine Bi rfl ?_|refine Bz rfl ?_|refine Lr ?_);conv=>whnf))
    exact ⟨rfl, rfl, rfl⟩

theorem F_eqTerrain (t : Ter) (hc : t.cost.length ≤ 1048576) : Fun E0 105 [.agg t.cs, .agg t.cs] [] (.v (vB true)) [] [] := by
  refine Fun_of_xc k105 rfl rfl (fun k q h => by cases h) ?_
  ((conv=>whnf);repeat((first|refine Ct ‹_› ?_|refine Cf ‹_› ?_|refine Ct rfl ?_|refine Cf rfl ?_|refine Bi rfl ?_|refine Bz rfl ?_|refine Lr ?_);conv=>whnf))
  refine Cnd_f (by simp) ?_
  ((conv=>whnf);repeat((first|refine Ct ‹_› ?_|refine Cf ‹_› ?_|refine Ct rfl ?_|refine Cf rfl ?_|refine Bi rfl ?_|refine Bz rfl ?_|refine Lr ?_);conv=>whnf))
  refine CallQ_some (F_eqIntS t.cost hc) rfl rfl ?_
  ((conv=>whnf);repeat((first|refine Ct ‹_› ?_|refine Cf ‹_› ?_|refine Ct rfl ?_|refine Cf rfl ?_|refine Bi rfl ?_|refine Bz rfl ?_|refine Lr ?_);conv=>whnf))
  refine Cnd_f (by simp) ?_
  ((conv=>whnf);repeat((first|refine Ct ‹_› ?_|refine Cf ‹_› ?_|refine Ct rfl ?_|refine Cf rfl ?_|refine Bi rfl ?_|refine Bz rfl ?_|refine Lr ?_);conv=>whnf))
  refine Cnd_f (by simp) ?_
  ((conv=>whnf);repeat((first|refine Ct ‹_› ?_|refine Cf ‹_› ?_|refine Ct rfl ?_|refine Cf rfl ?_|refine Bi rfl ?_|refine Bz rfl ?_|refine Lr ?_);conv=>whnf))
  refine Cnd_f (by simp) ?_
  ((conv=>whnf);repeat((first|refine Ct ‹_› ?_|refine Cf ‹_› ?_|refine Ct rfl ?_|refine Cf rfl ?_|refine Bi rfl ?_|refine Bz rfl ?_|refine Lr ?_);conv=>whnf))
  exact ⟨rfl, rfl, rfl⟩

theorem F_eqTerrainS (l : List Ter) (hl : l.length ≤ 1048576) (hc : ∀ t ∈ l, t.cost.length ≤ 1048576) : Fun E0 71 [.one (roT l), .one (roT l)] [] (.v (vB true)) [] [] := by
  refine Fun_of_xc k71 rfl rfl (fun k q h => by cases h) ?_
  ((conv=>whnf);repeat((first|refine Ct ‹_› ?_|refine Cf ‹_› ?_|refine Ct rfl ?_|refine Cf rfl ?_|refine Bi rfl ?_|refine Bz rfl ?_|refine Lr ?_);conv=>whnf))
  refine Cnd_f (by simp) ?_
  ((conv=>whnf);repeat((first|refine Ct ‹_› ?_|refine Cf ‹_› ?_|refine Ct rfl ?_|refine Cf rfl ?_|refine Bi rfl ?_|refine Bz rfl ?_|refine Lr ?_);conv=>whnf))
  refine WLoop_v ⟨[0, 1, 5], [], []⟩ (fun i : Int => hdS 27 [(0, .v (.one (roT l))), (1, .v (.one (roT l))), (5, .v (vI i))] [] [])
    (fun k i => 0 ≤ i ∧ i + k = l.length) l.length 0 rfl ⟨by omega, by omega⟩ ?_
  rintro k i ⟨h1, h2⟩
  ((conv=>whnf);repeat((first|refine Ct ‹_› ?_|refine Cf ‹_› ?_|refine Ct rfl ?_|refine Cf rfl ?_|refine Bi rfl ?_|refine Bz rfl ?_|refine Lr ?_);conv=>whnf))
  refine Cnd_i (fun h => ?_) (fun h => ?_)
  · have hi' : i < l.length := of_decide_eq_true h
    ((conv=>whnf);repeat((first|refine Ct ‹_› ?_|refine Cf ‹_› ?_|refine Ct rfl ?_|refine Cf rfl ?_|refine Bi rfl ?_|refine Bz rfl ?_|refine Lr ?_);conv=>whnf))
    refine Bnd_i ⟨h1, hi'⟩ ?_
    ((conv=>whnf);repeat((first|refine Ct ‹_› ?_|refine Cf ‹_› ?_|refine Ct rfl ?_|refine Cf rfl ?_|refine Bi rfl ?_|refine Bz rfl ?_|refine Lr ?_);conv=>whnf))
    refine Bnd_i ⟨h1, hi'⟩ ?_
    ((conv=>whnf);repeat((first|refine Ct ‹_› ?_|refine Cf ‹_› ?_|refine Ct rfl ?_|refine Cf rfl ?_|refine Bi rfl ?_|refine Bz rfl ?_|refine Lr ?_);conv=>whnf))
    refine CallQ_some (F_eqTerrain (l.getD i.toNat Ter.d) (hc _ (getD_memT h1 hi'))) rfl rfl ?_
    ((conv=>whnf);repeat((first|refine Ct ‹_› ?_|refine Cf ‹_› ?_|refine Ct rfl ?_|refine Cf rfl ?_|refine Bi rfl ?_|refine Bz rfl ?_|refine Lr ?_);conv=>whnf))
    refine ⟨k - 1, i + 1, ?_, ?_, ?_, ?_⟩
    · rw [wrapI (by omega)]; rfl
    · omega
    · omega
    · omega
  · ((conv=>whnf);repeat((first|refine Ct ‹_› ?_|refine Cf ‹_› ?_|refine Ct rfl ?_|refine Cf rfl ?_|refine Bi rfl ?_|refine Bz rfl ?_|refine Lr ?_);conv=>whnf))
    exact ⟨rfl, rfl, rfl⟩

theorem F_eqKind (t : Knd) : Fun E0 106 [.agg t.cs, .agg t.cs] [] (.v (vB true)) [] [] := by
  refine Fun_of_xc k106 rfl rfl (fun k q h => by cases h) ?_
  ((conv=>whnf);repeat((first|refine Ct ‹_› ?_|refine Cf ‹_› ?_|refine Ct rfl ?_|refine Cf rfl ?_|refine Bi rfl ?_|refine Bz rfl ?_|refine Lr ?_);conv=>whnf))
  refine Cnd_f (by simp) ?_
  ((conv=>whnf);repeat((first|refine Ct ‹_› ?_|refine Cf ‹_› ?_|refine Ct rfl ?_|refine Cf rfl ?_|refine Bi rfl ?_|refine Bz rfl ?_|refine Lr ?_);conv=>whnf))
  refine Cnd_f (by simp) ?_
  ((conv=>whnf);repeat((first|refine Ct ‹_› ?_|refine Cf ‹_› ?_|refine Ct rfl ?_|refine Cf rfl ?_|refine Bi rfl ?_|refine Bz rfl ?_|refine Lr ?_);conv=>whnf))
  refine Cnd_f (by simp) ?_
  ((conv=>whnf);repeat((first|refine Ct ‹_› ?_|refine Cf ‹_› ?_|refine Ct rfl ?_|refine Cf rfl ?_|refine Bi rfl ?_|refine Bz rfl ?_|refine Lr ?_);conv=>whnf))
  refine Cnd_f (by simp) ?_
  ((conv=>whnf);repeat((first|refine Ct ‹_› ?_|refine Cf ‹_› ?_|refine Ct rfl ?_|refine Cf rfl ?_|refine Bi rfl ?_|refine Bz rfl ?_|refine Lr ?_);conv=>whnf))
  refine Cnd_f (by simp) ?_
  ((conv=>whnf);repeat((first|refine Ct ‹_› ?_|refine Cf ‹_› ?_|refine Ct rfl ?_|refine Cf rfl ?_|refine Bi rfl ?_|refine Bz rfl ?_|refine Lr ?_);conv=>whnf))
  refine Cnd_f (by simp) ?_
  ((conv=>whnf);repeat((first|refine Ct ‹_› ?_|refine Cf ‹_› ?_|refine Ct rfl ?_|refine Cf rfl ?_|refine Bi rfl ?_|refine Bz rfl ?_|refine Lr ?_);conv=>whnf))
  exact ⟨rfl, rfl, rfl⟩

theorem F_eqKindS (l : List Knd) (hl : l.length ≤ 1048576) : Fun E0 72 [.one (roK l), .one (roK l)] [] (.v (vB true)) [] [] := by
  refine Fun_of_xc k72 rfl rfl (fun k q h => by cases h) ?_
  ((conv=>whnf);repeat((first|refine Ct ‹_› ?_|refine Cf ‹_› ?_|refine Ct rfl ?_|refine Cf rfl ?_|refine Bi rfl ?_|refine Bz rfl ?_|refine Lr ?_);conv=>whnf))
  refine Cnd_f (by simp) ?_
  ((conv=>whnf);repeat((first|refine Ct ‹_› ?_|refine Cf ‹_› ?_|refine Ct rfl ?_|refine Cf rfl ?_|refine Bi rfl ?_|refine Bz rfl ?_|refine Lr ?_);conv=>whnf))
  refine WLoop_v ⟨[0, 1, 5], [], []⟩ (fun i : Int => hdS 27 [(0, .v (.one (roK l))), (1, .v (.one (roK l))), (5, .v (vI i))] [] [])
    (fun k i => 0 ≤ i ∧ i + k = l.length) l.length 0 rfl ⟨by omega, by omega⟩ ?_
  rintro k i ⟨h1, h2⟩
  ((conv=>whnf);repeat((first|refine Ct ‹_› ?_|refine Cf ‹_› ?_|refine Ct rfl ?_|refine Cf rfl ?_|refine Bi rfl ?_|refine Bz rfl ?_|refine Lr ?_);conv=>whnf))
  refine Cnd_i (fun h => ?_) (fun h => ?_)
  · have hi' : i < l.length := of_decide_eq_true h
    ((conv=>whnf);repeat((first|refine Ct ‹_› ?_|refine Cf ‹_› ?_|refine Ct rfl ?_|refine Cf rfl ?_|refine Bi rfl ?_|refine Bz rfl ?_|refine Lr ?_);conv=>whnf))
    refine Bnd_i ⟨h1, hi'⟩ ?_
    ((conv=>whnf);repeat((first|refine Ct ‹_› ?_|refine Cf ‹_› ?_|refine Ct rfl ?_|refine Cf rfl ?_|refine Bi rfl ?_|refine Bz rfl ?_|refine Lr ?_);conv=>whnf))
    refine Bnd_i ⟨h1, hi'⟩ ?_
    ((conv=>whnf);repeat((first|refine Ct ‹_› ?_|refine Cf ‹_› ?_|refine Ct rfl ?_|refine Cf rfl ?_|refine Bi rfl ?_|refine Bz rfl ?_|refine Lr ?_);conv=>whnf))
    refine CallQ_some (F_eqKind (l.getD i.toNat Knd.d)) rfl rfl ?_
    ((conv=>whnf);repeat((first|refine Ct ‹_› ?_|refine Cf ‹_› ?_|refine Ct rfl ?_|refine Cf rfl ?_|refine Bi rfl ?_|refine Bz rfl ?_|refine Lr ?_);conv=>whnf))
    refine ⟨k - 1, i + 1, ?_, ?_, ?_, ?_⟩
    · rw [wrapI (by omega)]; rfl
    · omega
    · omega
    · omega
  · ((conv=>whnf);repeat((first|refine Ct ‹_› ?_|refine Cf ‹_› ?_|refine Ct rfl ?_|refine Cf rfl ?_|refine Bi rfl ?_|refine Bz rfl ?_|refine Lr ?_);conv=>whnf))
    exact ⟨rfl, rfl, rfl⟩

theorem F_eqRules (r : Rul) (h : r.Sm) : Fun E0 34 [.agg r.cs, .agg r.cs] [] (.v (vB true)) [] [] := by
  refine Fun_of_xc k34 rfl rfl (fun k q h => by cases h) ?_
  ((conv=>whnf);repeat((first|refine Ct ‹_› ?_|refine Cf ‹_› ?_|refine Ct rfl ?_|refine Cf rfl ?_|refine Bi rfl ?_|refine Bz rfl ?_|refine Lr ?_);conv=>whnf))
  refine CallQ_some (F_eqTerrainS r.ter h.ter h.cost) rfl rfl ?_
  ((conv=>whnf);repeat((first|refine Ct ‹_› ?_|refine Cf ‹_› ?_|refine Ct rfl ?_|refine Cf rfl ?_|refine Bi rfl ?_|refine Bz rfl ?_|refine Lr ?_);conv=>whnf))
  refine CallQ_some (F_eqKindS r.knd h.knd) rfl rfl ?_
  ((conv=>whnf);repeat((first|refine Ct ‹_› ?_|refine Cf ‹_› ?_|refine Ct rfl ?_|refine Cf rfl ?_|refine Bi rfl ?_|refine Bz rfl ?_|refine Lr ?_);conv=>whnf))
  refine Cnd_f (by simp) ?_
  ((conv=>whnf);repeat((first|refine Ct ‹_› ?_|refine Cf ‹_› ?_|refine Ct rfl ?_|refine Cf rfl ?_|refine Bi rfl ?_|refine Bz rfl ?_|refine Lr ?_);conv=>whnf))
  refine Cnd_f (by simp) ?_
  ((conv=>whnf);repeat((first|refine Ct ‹_› ?_|refine Cf ‹_› ?_|refine Ct rfl ?_|refine Cf rfl ?_|refine Bi rfl ?_|refine Bz rfl ?_|refine Lr ?_);conv=>whnf))
  refine Cnd_f (by simp) ?_
  ((conv=>whnf);repeat((first|refine Ct ‹_› ?_|refine Cf ‹_› ?_|refine Ct rfl ?_|refine Cf rfl ?_|refine Bi rfl ?_|refine Bz rfl ?_|refine Lr ?_);conv=>whnf))
  refine Cnd_f (by simp) ?_
  ((conv=>whnf);repeat((first|refine Ct ‹_› ?_|refine Cf ‹_› ?_|refine Ct rfl ?_|refine Cf rfl ?_|refine Bi rfl ?_|refine Bz rfl ?_|refine Lr ?_);conv=>whnf))
  refine Cnd_f (by simp) ?_
  ((conv=>whnf);repeat((first|refine Ct ‹_› ?_|refine Cf ‹_› ?_|refine Ct rfl ?_|refine Cf rfl ?_|refine Bi rfl ?_|refine Bz rfl ?_|refine Lr ?_);conv=>whnf))
  exact ⟨rfl, rfl, rfl⟩

theorem F_eqMap (m : Map) (h : m.Sm) : Fun E0 35 [.agg m.cs, .agg m.cs] [] (.v (vB true)) [] [] := by
  refine Fun_of_xc k35 rfl rfl (fun k q h => by cases h) ?_
  ((conv=>whnf);repeat((first|refine Ct ‹_› ?_|refine Cf ‹_› ?_|refine Ct rfl ?_|refine Cf rfl ?_|refine Bi rfl ?_|refine Bz rfl ?_|refine Lr ?_);conv=>whnf))
  refine Cnd_f (by simp) ?_
  ((conv=>whnf);repeat((first|refine Ct ‹_› ?_|refine Cf ‹_› ?_|refine Ct rfl ?_|refine Cf rfl ?_|refine Bi rfl ?_|refine Bz rfl ?_|refine Lr ?_);conv=>whnf))
  refine Cnd_f (by simp) ?_
  ((conv=>whnf);repeat((first|refine Ct ‹_› ?_|refine Cf ‹_› ?_|refine Ct rfl ?_|refine Cf rfl ?_|refine Bi rfl ?_|refine Bz rfl ?_|refine Lr ?_);conv=>whnf))
  refine CallQ_some (F_eqIntS m.ter h.ter) rfl rfl ?_
  ((conv=>whnf);repeat((first|refine Ct ‹_› ?_|refine Cf ‹_› ?_|refine Ct rfl ?_|refine Cf rfl ?_|refine Bi rfl ?_|refine Bz rfl ?_|refine Lr ?_);conv=>whnf))
  refine CallQ_some (F_eqIntS m.riv h.riv) rfl rfl ?_
  ((conv=>whnf);repeat((first|refine Ct ‹_› ?_|refine Cf ‹_› ?_|refine Ct rfl ?_|refine Cf rfl ?_|refine Bi rfl ?_|refine Bz rfl ?_|refine Lr ?_);conv=>whnf))
  refine CallQ_some (F_eqIntS m.roa h.roa) rfl rfl ?_
  ((conv=>whnf);repeat((first|refine Ct ‹_› ?_|refine Cf ‹_› ?_|refine Ct rfl ?_|refine Cf rfl ?_|refine Bi rfl ?_|refine Bz rfl ?_|refine Lr ?_);conv=>whnf))
  exact ⟨rfl, rfl, rfl⟩

theorem F_eqBoard (b : Brd) (h : b.Sm) : Fun E0 12 [.agg b.cs, .agg b.cs] [] (.v (vB true)) [] [] := by
  refine Fun_of_xc k12 rfl rfl (fun k q h => by cases h) ?_
  ((conv=>whnf);repeat((first|refine Ct ‹_› ?_|refine Cf ‹_› ?_|refine Ct rfl ?_|refine Cf rfl ?_|refine Bi rfl ?_|refine Bz rfl ?_|refine Lr ?_);conv=>whnf))
  refine CallQ_some (F_eqRules b.r h.r) rfl rfl ?_
  ((conv=>whnf);repeat((first|refine Ct ‹_› ?_|refine Cf ‹_› ?_|refine Ct rfl ?_|refine Cf rfl ?_|refine Bi rfl ?_|refine Bz rfl ?_|refine Lr ?_);conv=>whnf))
  refine CallQ_some (F_eqMap b.m h.m) rfl rfl ?_
  ((conv=>whnf);repeat((first|refine Ct ‹_› ?_|refine Cf ‹_› ?_|refine Ct rfl ?_|refine Cf rfl ?_|refine Bi rfl ?_|refine Bz rfl ?_|refine Lr ?_);conv=>whnf))
  exact ⟨rfl, rfl, rfl⟩

theorem CallQ_eq {E : Env} {f : Nat} {av av' : List V} {hot : Bool} {d : Option Nat} {ob : Ob} {K : T → Ob → Prop} (e : av = av') (h : CallQ E f av' hot d ob K) : CallQ E f av hot d ob K := e ▸ h

theorem nth_map {g : Cell → Cell} (hg : g .u = .u) : ∀ (l : List Cell) (j : Nat), g (nth l j) = nth (l.map g) j
  | [], _ => hg
  | _ :: _, 0 => rfl
  | _ :: l, j + 1 => nth_map hg l j

theorem toRo_nth (l : List Cell) (j : Nat) : toRo (nth l j) = nth (l.map toRo) j := nth_map rfl l j

theorem snapT (l : List Ter) : Cell.ro 5 l.length (fun i j => toRo (nth (l.getD i Ter.d).cw j)) = roT l := by
  unfold roT
  congr 1
  funext i j
  rw [toRo_nth]; rfl

theorem snapK (l : List Knd) : Cell.ro 6 l.length (fun i j => toRo (nth (l.getD i Knd.d).cs j)) = roK l := by
  unfold roK
  congr 1
  funext i j
  rw [toRo_nth]; rfl

theorem snapBB (b : Brd) :
    [V.agg [.ro 5 b.r.ter.length fun i j => toRo (nth (b.r.ter.getD i Ter.d).cw j), .ro 6 b.r.knd.length fun i j => toRo (nth (b.r.knd.getD i Knd.d).cs j), cI b.r.stack, cI b.r.river, cI b.r.road, cI b.r.supply, cI b.r.turns,
      cI b.m.w, cI b.m.h, roI b.m.ter, roI b.m.riv, roI b.m.roa],
     V.agg [.ro 5 b.r.ter.length fun i j => toRo (nth (b.r.ter.getD i Ter.d).cw j), .ro 6 b.r.knd.length fun i j => toRo (nth (b.r.knd.getD i Knd.d).cs j), cI b.r.stack, cI b.r.river, cI b.r.road, cI b.r.supply, cI b.r.turns,
      cI b.m.w, cI b.m.h, roI b.m.ter, roI b.m.riv, roI b.m.roa]] = [V.agg b.cs, V.agg b.cs] := by rw [snapT, snapK]

theorem sub1_sm {left n : Int} (h : ¬ sub1 left n < 0) : n ≤ left ∧ sub1 left n = left - n := by
  unfold sub1 at h ⊢
  by_cases g : left - n < 0
  · rw [if_pos g] at h; omega
  · rw [if_neg g]; omega

theorem szL_sm {α : Type} {f : α → Int → Int} {p : α → Prop} (hf : ∀ a x, 0 ≤ x → x ≤ 1048576 → ¬ f a x < 0 → p a ∧ f a x ≤ 1048576) : ∀ (l : List α) (x : Int), 0 ≤ x → x ≤ 1048576 → ¬ szL f l x < 0 → ∀ a ∈ l, p a
  | [], _, _, _, _, _, h => by cases h
  | a :: l, x, h0, h1, h, b, hb => by
    unfold szL at h
    by_cases g : f a x < 0
    · rw [if_pos g] at h; omega
    · rw [if_neg g] at h
      obtain ⟨c1, c2⟩ := hf a x h0 h1 g
      rcases List.mem_cons.1 hb with rfl | hb
      · exact c1
      · exact szL_sm hf l _ (by omega) c2 h b hb

theorem szS_sm {α : Type} {f : α → Int → Int} {p : α → Prop} (hf : ∀ a x, 0 ≤ x → x ≤ 1048576 → ¬ f a x < 0 → p a ∧ f a x ≤ 1048576) (l : List α) (x : Int) (h0 : 0 ≤ x) (h1 : x ≤ 1048576) (h : ¬ szS f l x < 0) : l.length ≤ 1048576 ∧ ∀ a ∈ l, p a := by
  unfold szS at h
  by_cases g : x - l.length < 0
  · rw [if_pos g] at h; omega
  · rw [if_neg g] at h
    exact ⟨by omega, szL_sm hf l _ (by omega) (by omega) h⟩

theorem szT_sm {t : Ter} {x : Int} (h0 : 0 ≤ x) (h1 : x ≤ 1048576) (h : ¬ szT t x < 0) : t.cost.length ≤ 1048576 ∧ szT t x ≤ 1048576 := by
  refine ⟨?_, (szT_b h0 h1).1⟩
  unfold szT at h
  by_cases g : x - t.name.size < 0
  · rw [if_pos g] at h; omega
  · rw [if_neg g] at h
    have := (sub1_sm h).1
    omega

theorem szB_sm {b : Brd} {x : Int} (h0 : 0 ≤ x) (h1 : x ≤ 1048576) (h : ¬ szB b x < 0) : b.Sm ∧ szB b x ≤ 1048576 := by
  unfold szB at h ⊢
  by_cases g : szR b.r x < 0
  · rw [if_pos g] at h; omega
  rw [if_neg g] at h ⊢
  by_cases g2 : szM b.m (szR b.r x) < 0
  · rw [if_pos g2] at h; omega
  rw [if_neg g2]
  clear h
  have gb := szR_b (r := b.r) h0 h1
  unfold szR at g
  by_cases e1 : szS szT b.r.ter x < 0
  · rw [if_pos e1] at g; omega
  rw [if_neg e1] at g
  by_cases e2 : szS szK b.r.knd (szS szT b.r.ter x) < 0
  · rw [if_pos e2] at g; omega
  have b1 := szS_b (f := szT) (fun t x a b => (szT_b a b).1) b.r.ter h0 h1
  have k1 := szS_sm (p := fun t : Ter => t.cost.length ≤ 1048576) (fun a x h0 h1 h => szT_sm h0 h1 h) b.r.ter x h0 h1 e1
  have k2 := szS_sm (f := szK) (p := fun _ => True) (fun a x h0 h1 h => ⟨trivial, (szK_b h0 h1).1⟩) b.r.knd _ (by omega) b1 e2
  unfold szM at g2 ⊢
  generalize szR b.r x = y at *
  by_cases e3 : sub1 y b.m.ter.length < 0
  · rw [if_pos e3] at g2; omega
  rw [if_neg e3] at g2 ⊢
  by_cases e4 : sub1 (sub1 y b.m.ter.length) b.m.riv.length < 0
  · rw [if_pos e4] at g2; omega
  rw [if_neg e4] at g2 ⊢
  have m1 := sub1_sm e3
  have m2 := sub1_sm e4
  have m3 := sub1_sm g2
  exact ⟨⟨⟨k1.1, k1.2, k2.1⟩, ⟨by omega, by omega, by omega⟩⟩, by omega⟩

/-- a board that is as it should be, with a hex of that number -/
def okPl (b : Brd) (i : Int) : Bool := okBrd b && In i 0 (b.m.w * b.m.h - 1)

structure PlOk (b : Brd) (i : Int) : Prop where
  gb : GB b
  i0 : 0 ≤ i
  i1 : i < b.m.ter.length

theorem PlOk.of {b : Brd} (ho : b.Ok) {i : Int} (h : okPl b i = true) : PlOk b i := by
  simp only [okPl, Bool.and_eq_true] at h
  have g := GB.of ho h.1
  have a := of_decide_eq_true h.2
  have := g.n
  exact ⟨g, by omega, by omega⟩

/-- the last digit, as a letter -/
def db (k : Int) : UInt8 := UInt8.ofNat (48 + k.toNat % 10)

theorem db_nat (k : Int) : (db k).toNat = 48 + k.toNat % 10 := by
  unfold db
  rw [UInt8.toNat_ofNat']
  omega

theorem wrapU8 {n : Int} (h : 0 ≤ n ∧ n ≤ 255) : IntKind.u8.wrap n = n := by
  unfold IntKind.wrap
  have : IntKind.u8.bits = 8 := rfl
  simp [IntKind.signed, IntKind.bits]
  omega

theorem db_wrap {k : Int} (h0 : 0 ≤ k) (h1 : k ≤ 1152921504606846976) : IntKind.u8.wrap (IntKind.i64.wrap (48 + k.tmod 10)) = ((db k).toNat : Int) := by
  rw [Int.tmod_eq_emod_of_nonneg h0, wrapI (by omega), wrapU8 (by omega), db_nat]
  omega

def digs : Nat → Int → ByteArray → ByteArray
  | 0, _, acc => acc
  | n + 1, k, acc => if k > 0 then digs n (k.tdiv 10) (⟨#[db k]⟩ ++ acc) else acc

theorem F_markText (k : Int) (hk : k ≤ 1152921504606846976) : ∃ s, Fun E0 108 [vI k] [] (.v (vS s)) [] [] := by
  by_cases h0 : k ≤ 0
  · refine ⟨⟨#[109, 48]⟩, ?_⟩
    refine Fun_of_xc k108 rfl rfl (fun k q h => by cases h) ?_
    ((conv=>whnf);repeat((first|refine Ct ‹_› ?_|refine Cf ‹_› ?_|refine Ct rfl ?_|refine Cf rfl ?_|refine Bi rfl ?_|refine Bz rfl ?_|refine Lr ?_);conv=>whnf))
    refine Cnd_t (decide_eq_true h0) ?_
    ((conv=>whnf);repeat((first|refine Ct ‹_› ?_|refine Cf ‹_› ?_|refine Ct rfl ?_|refine Cf rfl ?_|refine Bi rfl ?_|refine Bz rfl ?_|refine Lr ?_);conv=>whnf))
    exact ⟨rfl, rfl, rfl⟩
  · refine ⟨⟨#[109]⟩ ++ digs k.toNat k ⟨#[]⟩, ?_⟩
    refine Fun_of_xc k108 rfl rfl (fun k q h => by cases h) ?_
    ((conv=>whnf);repeat((first|refine Ct ‹_› ?_|refine Cf ‹_› ?_|refine Ct rfl ?_|refine Cf rfl ?_|refine Bi rfl ?_|refine Bz rfl ?_|refine Lr ?_);conv=>whnf))
    refine Cnd_f (decide_eq_false h0) ?_
    ((conv=>whnf);repeat((first|refine Ct ‹_› ?_|refine Cf ‹_› ?_|refine Ct rfl ?_|refine Cf rfl ?_|refine Bi rfl ?_|refine Bz rfl ?_|refine Lr ?_);conv=>whnf))
    refine WLoop_v ⟨[0, 3], [], []⟩ (fun x : Int × ByteArray => hdS 20 [(0, .v (vI x.1)), (3, .v (vS x.2))] [] [])
      (fun n x => 0 ≤ x.1 ∧ x.1 ≤ n ∧ n ≤ k ∧ (x.2.size : Int) + n ≤ k ∧ digs n x.1 x.2 = digs k.toNat k ⟨#[]⟩) k.toNat (k, ⟨#[]⟩) rfl ⟨by omega, by omega, by omega, by show (0 : Int) + _ ≤ _; omega, rfl⟩ ?_
    rintro n ⟨y, acc⟩ ⟨h1, h2, h3, h4, h5⟩
    simp only at h1 h2 h4 h5
    ((conv=>whnf);repeat((first|refine Ct ‹_› ?_|refine Cf ‹_› ?_|refine Ct rfl ?_|refine Cf rfl ?_|refine Bi rfl ?_|refine Bz rfl ?_|refine Lr ?_);conv=>whnf))
    refine Cnd_i (fun g => ?_) (fun g => ?_)
    · have g := of_decide_eq_true g
      ((conv=>whnf);repeat((first|refine Ct ‹_› ?_|refine Cf ‹_› ?_|refine Ct rfl ?_|refine Cf rfl ?_|refine Bi rfl ?_|refine Bz rfl ?_|refine Lr ?_);conv=>whnf))
      refine Rw_self ?_
      ((conv=>whnf);repeat((first|refine Ct ‹_› ?_|refine Cf ‹_› ?_|refine Ct rfl ?_|refine Cf rfl ?_|refine Bi rfl ?_|refine Bz rfl ?_|refine Lr ?_);conv=>whnf))
      refine Bts_i [db y] (by simp) rfl (fun i b hi => ?_) ?_
      · cases i with
        | zero =>
          simp at hi
          subst hi
          show Cell.int .u8 (IntKind.u8.wrap (IntKind.i64.wrap (48 + y.tmod 10))) = _
          rw [db_wrap h1 (by omega)]
        | succ i => simp at hi
      ((conv=>whnf);repeat((first|refine Ct ‹_› ?_|refine Cf ‹_› ?_|refine Ct rfl ?_|refine Cf rfl ?_|refine Bi rfl ?_|refine Bz rfl ?_|refine Lr ?_);conv=>whnf))
      have hsz : (⟨#[db y]⟩ : ByteArray).size = 1 := rfl
      refine Bnd_i ?_ ?_
      · show (⟨#[db y]⟩ : ByteArray).size + acc.size < _
        omega
      ((conv=>whnf);repeat((first|refine Ct ‹_› ?_|refine Cf ‹_› ?_|refine Ct rfl ?_|refine Cf rfl ?_|refine Bi rfl ?_|refine Bz rfl ?_|refine Lr ?_);conv=>whnf))
      obtain ⟨m, rfl⟩ : ∃ m, n = m + 1 := ⟨n - 1, by omega⟩
      refine ⟨m, (y.tdiv 10, ⟨#[db y]⟩ ++ acc), ?_, by omega, ?_⟩
      · rw [wrapI (by rw [Int.tdiv_eq_ediv_of_nonneg h1]; omega)]; rfl
      · have e1 : y.tdiv 10 = y / 10 := Int.tdiv_eq_ediv_of_nonneg h1
        refine ⟨by rw [e1]; omega, by rw [e1]; omega, by omega, ?_, ?_⟩
        · show ((⟨#[db y]⟩ ++ acc : ByteArray).size : Int) + m ≤ k
          rw [ByteArray.size_append, hsz]; omega
        · rw [digs, if_pos g] at h5
          exact h5
    · have g := of_decide_eq_false g
      ((conv=>whnf);repeat((first|refine Ct ‹_› ?_|refine Cf ‹_› ?_|refine Ct rfl ?_|refine Cf rfl ?_|refine Bi rfl ?_|refine Bz rfl ?_|refine Lr ?_);conv=>whnf))
      have h6 : acc = digs k.toNat k ⟨#[]⟩ := by
        rw [← h5]
        cases n with
        | zero => rfl
        | succ m => rw [digs, if_neg g]
      refine Bnd_i ?_ ?_
      · show (⟨#[109]⟩ : ByteArray).size + acc.size < _
        have : (⟨#[109]⟩ : ByteArray).size = 1 := rfl
        omega
      ((conv=>whnf);repeat((first|refine Ct ‹_› ?_|refine Cf ‹_› ?_|refine Ct rfl ?_|refine Cf rfl ?_|refine Bi rfl ?_|refine Bz rfl ?_|refine Lr ?_);conv=>whnf))
      rw [h6]
      exact ⟨rfl, rfl, rfl⟩

/-- the numbers from k on -/
def upt (k : Int) (n : Nat) : List Int := (List.range n).map fun i : Nat => k + (i : Int)

theorem upt_len (k : Int) (n : Nat) : (upt k n).length = n := by simp [upt]

theorem upt_get {k : Int} {n i : Nat} (h : i < n) : (upt k n).getD i 0 = k + i := by simp [upt, h]

/-- a row of numbers, told by its places -/
abbrev rwF (n : Nat) (f : Nat → Int) : Row := ⟨false, 1, n, fun i _ => cI (f i)⟩

abbrev P0 : Nat := 1000000

theorem mark_upt (l : List Int) (k : Int) : (fun i => if i < l.length then k + (i : Int) else l.getD i 0) = fun i => (upt k l.length).getD i 0 := by
  funext i
  by_cases e : i < l.length
  · rw [if_pos e, upt_get e]
  · rw [if_neg e, List.getD_eq_getElem?_getD, List.getD_eq_getElem?_getD, List.getElem?_eq_none (by omega), List.getElem?_eq_none (by rw [upt_len]; omega)]

theorem F_markIntS (l : List Int) (k : Int) (hl : l.length ≤ 1048576) (h0 : 0 ≤ k) (hk : k ≤ 1152921504606846976) :
    Fun E0 20 [.one (.own P0 l.length), vI k] [(P0, rwI l)] (.v (vI (k + l.length))) [] [(P0, rwF l.length fun i => (upt k l.length).getD i 0)] := by
  rw [← mark_upt]
  refine Fun_of_xc k20 rfl rfl (nrC (fun _ _ _ _ => rfl) nrN) ?_
  ((conv=>whnf);repeat((first|refine Ct ‹_› ?_|refine Cf ‹_› ?_|refine Ct rfl ?_|refine Cf rfl ?_|refine Bi rfl ?_|refine Bz rfl ?_|refine Lr ?_);conv=>whnf))
  refine WLoop_v ⟨[0, 1, 5], [], []⟩ (fun i : Int => hdS 19 [(0, .v (.one (.own P0 l.length))), (1, .v (vI (k + i))), (5, .v (vI i))] [] [(P0, rwF l.length fun j => if (j : Int) < i then k + j else l.getD j 0)])
    (fun n i => 0 ≤ i ∧ i + n = l.length) l.length 0 ?_ ⟨by omega, by omega⟩ ?_
  · have e : (fun j : Nat => if (j : Int) < 0 then k + j else l.getD j 0) = fun j => l.getD j 0 := by funext j; rw [if_neg (by omega)]
    rw [e, show k + 0 = k by omega]; rfl
  rintro n i ⟨h1, h2⟩
  ((conv=>whnf);repeat((first|refine Ct ‹_› ?_|refine Cf ‹_› ?_|refine Ct rfl ?_|refine Cf rfl ?_|refine Bi rfl ?_|refine Bz rfl ?_|refine Lr ?_);conv=>whnf))
  refine Cnd_i (fun h => ?_) (fun h => ?_)
  · have hi' : i < l.length := of_decide_eq_true h
    ((conv=>whnf);repeat((first|refine Ct ‹_› ?_|refine Cf ‹_› ?_|refine Ct rfl ?_|refine Cf rfl ?_|refine Bi rfl ?_|refine Bz rfl ?_|refine Lr ?_);conv=>whnf))
    refine Bnd_i (⟨h1, hi'⟩) ?_; ((conv=>whnf);repeat((first|refine Ct ‹_› ?_|refine Cf ‹_› ?_|refine Ct rfl ?_|refine Cf rfl ?_|refine Bi rfl ?_|refine Bz rfl ?_|refine Lr ?_);conv=>whnf))
    refine Rw_i (rwF l.length fun j => if (j : Int) < i + 1 then k + j else l.getD j 0) ⟨rfl, rfl, rfl, fun i' j hi hj => ?_⟩ ?_
    · have hj : j < 1 := hj
      obtain rfl : j = 0 := by omega
      show wrG (fun i' _ => cI (if (i' : Int) < i then k + i' else l.getD i' 0)) i.toNat 0 [cI (k + i)] i' 0 = cI (if (i' : Int) < i + 1 then k + i' else l.getD i' 0)
      by_cases e : i' = i.toNat
      · subst e
        rw [wrG_in (by simp), if_pos (by omega), show ((i.toNat : Nat) : Int) = i by omega]; rfl
      · rw [wrG_out (fun hh => e hh.1)]
        show cI (if (i' : Int) < i then k + i' else l.getD i' 0) = _
        by_cases e2 : (i' : Int) < i
        · rw [if_pos e2, if_pos (by omega)]
        · rw [if_neg e2, if_neg (by omega)]
    ((conv=>whnf);repeat((first|refine Ct ‹_› ?_|refine Cf ‹_› ?_|refine Ct rfl ?_|refine Cf rfl ?_|refine Bi rfl ?_|refine Bz rfl ?_|refine Lr ?_);conv=>whnf))
    refine ⟨n - 1, i + 1, ?_, ?_, ?_, ?_⟩
    · rw [wrapI (n := i + 1) (by omega), wrapI (n := k + i + 1) (by omega), show k + i + 1 = k + (i + 1) by omega]; rfl
    · omega
    · omega
    · omega
  · have hi' := of_decide_eq_false h
    ((conv=>whnf);repeat((first|refine Ct ‹_› ?_|refine Cf ‹_› ?_|refine Ct rfl ?_|refine Cf rfl ?_|refine Bi rfl ?_|refine Bz rfl ?_|refine Lr ?_);conv=>whnf))
    obtain rfl : i = (l.length : Int) := by omega
    have e : (fun j : Nat => if (j : Int) < l.length then k + j else l.getD j 0) = fun j => if j < l.length then k + j else l.getD j 0 := by
      funext j
      by_cases e : j < l.length
      · rw [if_pos e, if_pos (by omega)]
      · rw [if_neg e, if_neg (by omega)]
    rw [e]
    exact ⟨rfl, rfl, rfl⟩

theorem F_heldIntS (k : Int) (n : Nat) (hn : n ≤ 1048576) (h0 : 0 ≤ k) (hk : k ≤ 1152921504606846976) : Fun E0 21 [.one (.ro 1 n fun i _ => cI ((upt k n).getD i 0)), vI k] [] (.v (vI (k + n))) [] [] := by
  refine Fun_of_xc k21 rfl rfl (fun k q h => by cases h) ?_
  ((conv=>whnf);repeat((first|refine Ct ‹_› ?_|refine Cf ‹_› ?_|refine Ct rfl ?_|refine Cf rfl ?_|refine Bi rfl ?_|refine Bz rfl ?_|refine Lr ?_);conv=>whnf))
  refine WLoop_v ⟨[0, 1, 5], [], []⟩ (fun i : Int => hdS 21 [(0, .v (.one (.ro 1 n fun i _ => cI ((upt k n).getD i 0)))), (1, .v (vI (k + i))), (5, .v (vI i))] [] [])
    (fun m i => 0 ≤ i ∧ i + m = n) n 0 (by rw [show k + 0 = k by omega]; rfl) ⟨by omega, by omega⟩ ?_
  rintro m i ⟨h1, h2⟩
  ((conv=>whnf);repeat((first|refine Ct ‹_› ?_|refine Cf ‹_› ?_|refine Ct rfl ?_|refine Cf rfl ?_|refine Bi rfl ?_|refine Bz rfl ?_|refine Lr ?_);conv=>whnf))
  refine Cnd_i (fun h => ?_) (fun h => ?_)
  · have hi' : i < n := of_decide_eq_true h
    ((conv=>whnf);repeat((first|refine Ct ‹_› ?_|refine Cf ‹_› ?_|refine Ct rfl ?_|refine Cf rfl ?_|refine Bi rfl ?_|refine Bz rfl ?_|refine Lr ?_);conv=>whnf))
    refine Bnd_i (⟨h1, hi'⟩) ?_; ((conv=>whnf);repeat((first|refine Ct ‹_› ?_|refine Cf ‹_› ?_|refine Ct rfl ?_|refine Cf rfl ?_|refine Bi rfl ?_|refine Bz rfl ?_|refine Lr ?_);conv=>whnf))
    refine Cnd_f (by rw [upt_get (by omega)]; simp; omega) ?_
    ((conv=>whnf);repeat((first|refine Ct ‹_› ?_|refine Cf ‹_› ?_|refine Ct rfl ?_|refine Cf rfl ?_|refine Bi rfl ?_|refine Bz rfl ?_|refine Lr ?_);conv=>whnf))
    refine ⟨m - 1, i + 1, ?_, ?_, ?_, ?_⟩
    · rw [wrapI (n := i + 1) (by omega), wrapI (n := k + i + 1) (by omega), show k + i + 1 = k + (i + 1) by omega]; rfl
    · omega
    · omega
    · omega
  · have hi' := of_decide_eq_false h
    ((conv=>whnf);repeat((first|refine Ct ‹_› ?_|refine Cf ‹_› ?_|refine Ct rfl ?_|refine Cf rfl ?_|refine Bi rfl ?_|refine Bz rfl ?_|refine Lr ?_);conv=>whnf))
    obtain rfl : i = (n : Int) := by omega
    exact ⟨rfl, rfl, rfl⟩

theorem F_markMap (m : Map) (h : m.Sm) (k : Int) (h0 : 0 ≤ k) (hk : k ≤ 576460752303423488) :
    ∃ k' : Int, k ≤ k' ∧ k' ≤ k + 4194304 ∧ ∃ o : Ob, Shape [(P0 + 2, rwI m.ter), (P0 + 3, rwI m.riv), (P0 + 4, rwI m.roa)] o ∧
      Fun E0 46 [.agg [cI m.w, cI m.h, .own (P0 + 2) m.ter.length, .own (P0 + 3) m.riv.length, .own (P0 + 4) m.roa.length], vI k] [(P0 + 2, rwI m.ter), (P0 + 3, rwI m.riv), (P0 + 4, rwI m.roa)] (.v (vI k')) [] o := by
  have e1 := h.ter
  have e2 := h.riv
  have e3 := h.roa
  refine ⟨k + m.ter.length + m.riv.length + m.roa.length, by omega, by omega, [(P0 + 2, rwF m.ter.length fun i => (upt k m.ter.length).getD i 0), (P0 + 3, rwF m.riv.length fun i => (upt (k + m.ter.length) m.riv.length).getD i 0),
    (P0 + 4, rwF m.roa.length fun i => (upt (k + m.ter.length + m.riv.length) m.roa.length).getD i 0)], ⟨rfl, rfl, rfl, rfl, rfl, rfl, rfl, rfl, rfl, rfl, rfl, rfl, trivial⟩, ?_⟩
  refine Fun_of_xc k46 rfl rfl (nrC (fun _ _ _ _ => rfl) (nrC (fun _ _ _ _ => rfl) (nrC (fun _ _ _ _ => rfl) nrN))) ?_
  ((conv=>whnf);repeat((first|refine Ct ‹_› ?_|refine Cf ‹_› ?_|refine Ct rfl ?_|refine Cf rfl ?_|refine Bi rfl ?_|refine Bz rfl ?_|refine Lr ?_);conv=>whnf))
  (refine CallR_some (F_markIntS m.ter k h.ter h0 (by omega)) (by repeat (first | exact trivial | refine ⟨rfl, rfl, rfl, rfl, ?_⟩)) ?_ ?_ ?_ ?_; rfl; rfl; rfl); ((conv=>whnf);repeat((first|refine Ct ‹_› ?_|refine Cf ‹_› ?_|refine Ct rfl ?_|refine Cf rfl ?_|refine Bi rfl ?_|refine Bz rfl ?_|refine Lr ?_);conv=>whnf))
  (refine CallR_some (F_markIntS m.riv _ h.riv (by omega) (by omega)) (by repeat (first | exact trivial | refine ⟨rfl, rfl, rfl, rfl, ?_⟩)) ?_ ?_ ?_ ?_; rfl; rfl; rfl); ((conv=>whnf);repeat((first|refine Ct ‹_› ?_|refine Cf ‹_› ?_|refine Ct rfl ?_|refine Cf rfl ?_|refine Bi rfl ?_|refine Bz rfl ?_|refine Lr ?_);conv=>whnf))
  (refine CallR_some (F_markIntS m.roa _ h.roa (by omega) (by omega)) (by repeat (first | exact trivial | refine ⟨rfl, rfl, rfl, rfl, ?_⟩)) ?_ ?_ ?_ ?_; rfl; rfl; rfl); ((conv=>whnf);repeat((first|refine Ct ‹_› ?_|refine Cf ‹_› ?_|refine Ct rfl ?_|refine Cf rfl ?_|refine Bi rfl ?_|refine Bz rfl ?_|refine Lr ?_);conv=>whnf))
  exact ⟨rfl, rfl, rfl⟩

/-- marks: a number not far above comes back; the rows keep their shapes -/
def Mkd (k m : Int) (ob : Ob) (r : T) (obr obo : Ob) : Prop := ∃ k' : Int, k ≤ k' ∧ k' ≤ k + m ∧ r = .v (vI k') ∧ obr = [] ∧ Shape ob obo

theorem Rw_o {r : Row} {K : Row → Prop} (dp : Bool) (sz n : Nat) (hd : r.deep = dp) (hs : r.sz = sz) (hn : r.n = n) (h : ∀ g, (∀ i j, r.get i j = g i j) → K ⟨dp, sz, n, g⟩) : Rw r K :=
  Rw_i ⟨dp, sz, n, r.get⟩ ⟨hd, hs, hn, fun _ _ _ _ => rfl⟩ (h _ fun _ _ => rfl)

theorem F_markKindS (l : List Knd) (k : Int) (hl : l.length ≤ 1048576) (h0 : 0 ≤ k) (hk : k ≤ 4503599627370496) :
    FunE E0 83 [.one (.own P0 l.length), vI k] [(P0, rwK l)] (Mkd k 8388608 [(P0, rwK l)]) := by
  refine FunE_of_xc k83 rfl ?_ ?_
  · rintro r o o' ⟨k', _, _, rfl, rfl, hs⟩
    match o', hs with
    | [(p, q)], ⟨e, _⟩ => subst e; rfl
  ((conv=>whnf);repeat((first|refine Ct ‹_› ?_|refine Cf ‹_› ?_|refine Ct rfl ?_|refine Cf rfl ?_|refine Bi rfl ?_|refine Bz rfl ?_|refine Lr ?_);conv=>whnf))
  refine WLoop_v3 ⟨[0, 1, 5], [], []⟩ (fun (i y : Int) (g : Nat → Nat → Cell) => hdS 58 [(0, .v (.one (.own P0 l.length))), (1, .v (vI y)), (5, .v (vI i))] [] [(P0, ⟨false, 6, l.length, g⟩)])
    (fun n i y _ => 0 ≤ i ∧ i + n = l.length ∧ k ≤ y ∧ y ≤ k + 6 * i) l.length 0 k (rwK l).get rfl ⟨by omega, by omega, Int.le_refl k, by show k ≤ k + 6 * 0; omega⟩ ?_
  rintro n i y g ⟨h1, h2, h3, h4⟩
  ((conv=>whnf);repeat((first|refine Ct ‹_› ?_|refine Cf ‹_› ?_|refine Ct rfl ?_|refine Cf rfl ?_|refine Bi rfl ?_|refine Bz rfl ?_|refine Lr ?_);conv=>whnf))
  refine Cnd_i (fun h => ?_) (fun h => ?_)
  · have hi' : i < l.length := of_decide_eq_true h
    obtain ⟨s, hs⟩ := F_markText y (by omega)
    ((conv=>whnf);repeat((first|refine Ct ‹_› ?_|refine Cf ‹_› ?_|refine Ct rfl ?_|refine Cf rfl ?_|refine Bi rfl ?_|refine Bz rfl ?_|refine Lr ?_);conv=>whnf))
    (refine CallQ_some (hs) ?_ ?_ ?_; rfl; rfl); ((conv=>whnf);repeat((first|refine Ct ‹_› ?_|refine Cf ‹_› ?_|refine Ct rfl ?_|refine Cf rfl ?_|refine Bi rfl ?_|refine Bz rfl ?_|refine Lr ?_);conv=>whnf))
    refine Bnd_i (⟨h1, hi'⟩) ?_; ((conv=>whnf);repeat((first|refine Ct ‹_› ?_|refine Cf ‹_› ?_|refine Ct rfl ?_|refine Cf rfl ?_|refine Bi rfl ?_|refine Bz rfl ?_|refine Lr ?_);conv=>whnf))
    refine Rw_o false 6 l.length rfl rfl rfl (fun g1 _ => ?_)
    ((conv=>whnf);repeat((first|refine Ct ‹_› ?_|refine Cf ‹_› ?_|refine Ct rfl ?_|refine Cf rfl ?_|refine Bi rfl ?_|refine Bz rfl ?_|refine Lr ?_);conv=>whnf))
    rw [wrapI (n := y + 1) (by omega)]
    refine Bnd_i (⟨h1, hi'⟩) ?_; ((conv=>whnf);repeat((first|refine Ct ‹_› ?_|refine Cf ‹_› ?_|refine Ct rfl ?_|refine Cf rfl ?_|refine Bi rfl ?_|refine Bz rfl ?_|refine Lr ?_);conv=>whnf))
    refine Rw_o false 6 l.length rfl rfl rfl (fun g2 _ => ?_)
    ((conv=>whnf);repeat((first|refine Ct ‹_› ?_|refine Cf ‹_› ?_|refine Ct rfl ?_|refine Cf rfl ?_|refine Bi rfl ?_|refine Bz rfl ?_|refine Lr ?_);conv=>whnf))
    rw [wrapI (n := y + 1 + 1) (by omega)]
    refine Bnd_i (⟨h1, hi'⟩) ?_; ((conv=>whnf);repeat((first|refine Ct ‹_› ?_|refine Cf ‹_› ?_|refine Ct rfl ?_|refine Cf rfl ?_|refine Bi rfl ?_|refine Bz rfl ?_|refine Lr ?_);conv=>whnf))
    refine Rw_o false 6 l.length rfl rfl rfl (fun g3 _ => ?_)
    ((conv=>whnf);repeat((first|refine Ct ‹_› ?_|refine Cf ‹_› ?_|refine Ct rfl ?_|refine Cf rfl ?_|refine Bi rfl ?_|refine Bz rfl ?_|refine Lr ?_);conv=>whnf))
    rw [wrapI (n := y + 1 + 1 + 1) (by omega)]
    refine Bnd_i (⟨h1, hi'⟩) ?_; ((conv=>whnf);repeat((first|refine Ct ‹_› ?_|refine Cf ‹_› ?_|refine Ct rfl ?_|refine Cf rfl ?_|refine Bi rfl ?_|refine Bz rfl ?_|refine Lr ?_);conv=>whnf))
    refine Rw_o false 6 l.length rfl rfl rfl (fun g4 _ => ?_)
    ((conv=>whnf);repeat((first|refine Ct ‹_› ?_|refine Cf ‹_› ?_|refine Ct rfl ?_|refine Cf rfl ?_|refine Bi rfl ?_|refine Bz rfl ?_|refine Lr ?_);conv=>whnf))
    rw [wrapI (n := y + 1 + 1 + 1 + 1) (by omega)]
    refine Bnd_i (⟨h1, hi'⟩) ?_; ((conv=>whnf);repeat((first|refine Ct ‹_› ?_|refine Cf ‹_› ?_|refine Ct rfl ?_|refine Cf rfl ?_|refine Bi rfl ?_|refine Bz rfl ?_|refine Lr ?_);conv=>whnf))
    refine Rw_o false 6 l.length rfl rfl rfl (fun g5 _ => ?_)
    ((conv=>whnf);repeat((first|refine Ct ‹_› ?_|refine Cf ‹_› ?_|refine Ct rfl ?_|refine Cf rfl ?_|refine Bi rfl ?_|refine Bz rfl ?_|refine Lr ?_);conv=>whnf))
    rw [wrapI (n := y + 1 + 1 + 1 + 1 + 1) (by omega)]
    refine Bnd_i (⟨h1, hi'⟩) ?_; ((conv=>whnf);repeat((first|refine Ct ‹_› ?_|refine Cf ‹_› ?_|refine Ct rfl ?_|refine Cf rfl ?_|refine Bi rfl ?_|refine Bz rfl ?_|refine Lr ?_);conv=>whnf))
    refine Rw_o false 6 l.length rfl rfl rfl (fun g6 _ => ?_)
    ((conv=>whnf);repeat((first|refine Ct ‹_› ?_|refine Cf ‹_› ?_|refine Ct rfl ?_|refine Cf rfl ?_|refine Bi rfl ?_|refine Bz rfl ?_|refine Lr ?_);conv=>whnf))
    refine ⟨n - 1, i + 1, y + 1 + 1 + 1 + 1 + 1 + 1, g6, ?_, ?_, ?_⟩
    · rw [wrapI (n := i + 1) (by omega), wrapI (n := y + 1 + 1 + 1 + 1 + 1 + 1) (by omega)]; rfl
    · omega
    · exact ⟨by omega, by omega, by omega, by omega⟩
  · have hi' := of_decide_eq_false h
    ((conv=>whnf);repeat((first|refine Ct ‹_› ?_|refine Cf ‹_› ?_|refine Ct rfl ?_|refine Cf rfl ?_|refine Bi rfl ?_|refine Bz rfl ?_|refine Lr ?_);conv=>whnf))
    exact ⟨y, h3, by omega, rfl, rfl, rfl, rfl, rfl, rfl, trivial⟩

/-- a row of terrains -/
abbrev rwTn (n : Nat) (l : List Ter) : Row := ⟨true, 5, n, fun i j => nth (l.getD i Ter.d).cw j⟩

theorem lt5 {p : Nat → Prop} (h0 : p 0) (h1 : p 1) (h2 : p 2) (h3 : p 3) (h4 : p 4) : ∀ j, j < 5 → p j := by
  intro j hj
  match j, hj with
  | 0, _ => exact h0
  | 1, _ => exact h1
  | 2, _ => exact h2
  | 3, _ => exact h3
  | 4, _ => exact h4

theorem rwT_wr {n i o : Nat} {g : Nat → Nat → Cell} {c : Cell} {l : List Ter} {t' : Ter} (hi : i < l.length) (hg : ∀ i' j, i' ≠ i → g i' j = nth (l.getD i' Ter.d).cw j)
    (h : ∀ j, j < 5 → (if j = o then c else g i j) = nth t'.cw j) : RowEq ⟨true, 5, n, wrG g i o [c]⟩ (rwTn n (l.set i t')) := by
  refine ⟨rfl, rfl, rfl, fun i' j _ hj => ?_⟩
  have hj : j < 5 := hj
  show wrG g i o [c] i' j = nth ((l.set i t').getD i' Ter.d).cw j
  by_cases e : i' = i
  · subst e
    have e1 : (l.set i' t').getD i' Ter.d = t' := by simp [hi]
    rw [e1, ← h j hj]
    by_cases e2 : j = o
    · subst e2
      rw [wrG_in (by simp), if_pos rfl]; simp [nth]
    · rw [wrG_out (fun hh => e2 (by simp at hh; omega)), if_neg e2]
  · have e1 : (l.set i t').getD i' Ter.d = l.getD i' Ter.d := by simp [List.getElem?_set, Ne.symm e]
    rw [wrG_out (fun hh => e hh.1), hg i' j e, e1]

theorem set_len {l : List Ter} {i : Nat} {t' : Ter} {L : List Ter} (h : ∀ j, (l.getD j Ter.d).cost.length = (L.getD j Ter.d).cost.length) (ht : t'.cost.length = (l.getD i Ter.d).cost.length) :
    ∀ j, ((l.set i t').getD j Ter.d).cost.length = (L.getD j Ter.d).cost.length := by
  intro j
  rw [← h j]
  by_cases e : i = j
  · subst e
    by_cases hl : i < l.length
    · simp [hl, ht]
    · simp [hl]
  · simp [List.getElem?_set, e]

theorem Rw_T {n i o : Nat} {g : Nat → Nat → Cell} {c : Cell} {l L : List Ter} {N : Nat} {K : Row → Prop} (t' : Ter) (hi : i < l.length) (hg : ∀ i' j, i' ≠ i → g i' j = nth (l.getD i' Ter.d).cw j)
    (h : ∀ j, j < 5 → (if j = o then c else g i j) = nth t'.cw j) (hN : l.length = N) (hL : ∀ j, (l.getD j Ter.d).cost.length = (L.getD j Ter.d).cost.length) (ht : t'.cost.length = (l.getD i Ter.d).cost.length)
    (hk : ∀ l2 : List Ter, l2.length = N → (∀ j, (l2.getD j Ter.d).cost.length = (L.getD j Ter.d).cost.length) → K (rwTn n l2)) : Rw ⟨true, 5, n, wrG g i o [c]⟩ K :=
  Rw_i _ (rwT_wr hi hg h) (hk _ (by simp [hN]) (set_len hL ht))

theorem setC_ne {g : Nat → Nat → Cell} {i j : Nat} {c : Cell} {i' j' : Nat} (h : i' ≠ i) : setCell g i j c i' j' = g i' j' := by simp [setCell, beq_ne h]

theorem setC_eq {g : Nat → Nat → Cell} {i j : Nat} {c : Cell} {j' : Nat} : setCell g i j c i j' = if j' = j then c else g i j' := by
  by_cases e : j' = j
  · subst e; simp [setCell]
  · simp [setCell, beq_ne e, e]

theorem F_markTerrainS (l : List Ter) (k : Int) (hl : l.length ≤ 1048576) (hc : ∀ t ∈ l, t.cost.length ≤ 1048576) (h0 : 0 ≤ k) (hk : k ≤ 1073741824000000) :
    FunE E0 82 [.one (.own P0 l.length), vI k] [(P0, rwT l)] (Mkd k 1125899906842624 [(P0, rwT l)]) := by
  refine FunE_of_xc k82 rfl ?_ ?_
  · rintro r o o' ⟨k', _, _, rfl, rfl, hs⟩
    match o', hs with
    | [(p, q)], ⟨e, _⟩ => subst e; rfl
  ((conv=>whnf);repeat((first|refine Ct ‹_› ?_|refine Cf ‹_› ?_|refine Ct rfl ?_|refine Cf rfl ?_|refine Bi rfl ?_|refine Bz rfl ?_|refine Lr ?_);conv=>whnf))
  refine WLoop_v3 ⟨[0, 1, 5], [], []⟩ (fun (i y : Int) (g : List Ter) => hdS 51 [(0, .v (.one (.own P0 l.length))), (1, .v (vI y)), (5, .v (vI i))] [] [(P0, rwTn l.length g)])
    (fun n i y g => 0 ≤ i ∧ i + n = l.length ∧ k ≤ y ∧ y ≤ k + 1048580 * i ∧ g.length = l.length ∧ ∀ j, (g.getD j Ter.d).cost.length = (l.getD j Ter.d).cost.length) l.length 0 k l rfl
    ⟨by omega, by omega, by omega, by omega, rfl, fun _ => rfl⟩ ?_
  rintro n i y g ⟨h1, h2, h3, h4, h5, h6⟩
  ((conv=>whnf);repeat((first|refine Ct ‹_› ?_|refine Cf ‹_› ?_|refine Ct rfl ?_|refine Cf rfl ?_|refine Bi rfl ?_|refine Bz rfl ?_|refine Lr ?_);conv=>whnf))
  refine Cnd_i (fun h => ?_) (fun h => ?_)
  · have hi' : i < l.length := of_decide_eq_true h
    have hi2 : i.toNat < g.length := by omega
    have hLi : (g.getD i.toNat Ter.d).cost.length ≤ 1048576 := by
      rw [h6]; exact hc _ (getD_memT h1 hi')
    obtain ⟨s, hs⟩ := F_markText y (by omega)
    ((conv=>whnf);repeat((first|refine Ct ‹_› ?_|refine Cf ‹_› ?_|refine Ct rfl ?_|refine Cf rfl ?_|refine Bi rfl ?_|refine Bz rfl ?_|refine Lr ?_);conv=>whnf))
    (refine CallQ_some (hs) ?_ ?_ ?_; rfl; rfl); ((conv=>whnf);repeat((first|refine Ct ‹_› ?_|refine Cf ‹_› ?_|refine Ct rfl ?_|refine Cf rfl ?_|refine Bi rfl ?_|refine Bz rfl ?_|refine Lr ?_);conv=>whnf))
    refine Bnd_i (⟨h1, hi'⟩) ?_; ((conv=>whnf);repeat((first|refine Ct ‹_› ?_|refine Cf ‹_› ?_|refine Ct rfl ?_|refine Cf rfl ?_|refine Bi rfl ?_|refine Bz rfl ?_|refine Lr ?_);conv=>whnf))
    refine Rw_T { g.getD i.toNat Ter.d with name := s } hi2 (fun _ _ _ => rfl) (lt5 rfl rfl rfl rfl rfl) h5 h6 rfl (fun g1 h51 h61 => ?_)
    have hL1 : (g1.getD i.toNat Ter.d).cost.length ≤ 1048576 := by rw [h61, ← h6]; exact hLi
    ((conv=>whnf);repeat((first|refine Ct ‹_› ?_|refine Cf ‹_› ?_|refine Ct rfl ?_|refine Cf rfl ?_|refine Bi rfl ?_|refine Bz rfl ?_|refine Lr ?_);conv=>whnf))
    rw [wrapI (n := y + 1) (by omega)]
    refine Bnd_i (⟨h1, hi'⟩) ?_; ((conv=>whnf);repeat((first|refine Ct ‹_› ?_|refine Cf ‹_› ?_|refine Ct rfl ?_|refine Cf rfl ?_|refine Bi rfl ?_|refine Bz rfl ?_|refine Lr ?_);conv=>whnf))
    (refine CallR_some (F_markIntS (g1.getD i.toNat Ter.d).cost (y + 1) hL1 (by omega) (by omega)) (by repeat (first | exact trivial | refine ⟨rfl, rfl, rfl, rfl, ?_⟩)) ?_ ?_ ?_ ?_; rfl; rfl; rfl); ((conv=>whnf);repeat((first|refine Ct ‹_› ?_|refine Cf ‹_› ?_|refine Ct rfl ?_|refine Cf rfl ?_|refine Bi rfl ?_|refine Bz rfl ?_|refine Lr ?_);conv=>whnf))
    generalize hm : (g1.getD i.toNat Ter.d).cost.length = m at hL1 ⊢
    refine Bnd_i (⟨h1, hi'⟩) ?_; ((conv=>whnf);repeat((first|refine Ct ‹_› ?_|refine Cf ‹_› ?_|refine Ct rfl ?_|refine Cf rfl ?_|refine Bi rfl ?_|refine Bz rfl ?_|refine Lr ?_);conv=>whnf))
    refine Rw_T (l := g1) { g1.getD i.toNat Ter.d with cost := upt (y + 1) m, shift := y + 1 + m } (by omega) (fun _ _ hne => setC_ne hne) (lt5 (setC_eq.trans rfl) ?_ rfl (setC_eq.trans rfl) (setC_eq.trans rfl)) h51 h61 (by rw [← hm]; exact upt_len _ _) (fun g2 h52 h62 => ?_)
    · show setCell (rwTn l.length g1).get i.toNat 1 _ i.toNat 1 = _
      rw [setC_eq, if_pos rfl]
      show Cell.fr 1 m (fun i _ => cI ((upt (y + 1) m).getD i 0)) = Cell.fr 1 (upt (y + 1) m).length (fun i _ => cI ((upt (y + 1) m).getD i 0))
      rw [upt_len]
    ((conv=>whnf);repeat((first|refine Ct ‹_› ?_|refine Cf ‹_› ?_|refine Ct rfl ?_|refine Cf rfl ?_|refine Bi rfl ?_|refine Bz rfl ?_|refine Lr ?_);conv=>whnf))
    rw [wrapI (n := y + 1 + m + 1) (by omega)]
    refine Bnd_i (⟨h1, hi'⟩) ?_; ((conv=>whnf);repeat((first|refine Ct ‹_› ?_|refine Cf ‹_› ?_|refine Ct rfl ?_|refine Cf rfl ?_|refine Bi rfl ?_|refine Bz rfl ?_|refine Lr ?_);conv=>whnf))
    refine Rw_T (l := g2) { g2.getD i.toNat Ter.d with height := y + 1 + m + 1 } (by omega) (fun _ _ _ => rfl) (lt5 rfl rfl rfl rfl rfl) h52 h62 rfl (fun g3 h53 h63 => ?_)
    ((conv=>whnf);repeat((first|refine Ct ‹_› ?_|refine Cf ‹_› ?_|refine Ct rfl ?_|refine Cf rfl ?_|refine Bi rfl ?_|refine Bz rfl ?_|refine Lr ?_);conv=>whnf))
    rw [wrapI (n := y + 1 + m + 1 + 1) (by omega)]
    refine Bnd_i (⟨h1, hi'⟩) ?_; ((conv=>whnf);repeat((first|refine Ct ‹_› ?_|refine Cf ‹_› ?_|refine Ct rfl ?_|refine Cf rfl ?_|refine Bi rfl ?_|refine Bz rfl ?_|refine Lr ?_);conv=>whnf))
    refine Rw_T (l := g3) { g3.getD i.toNat Ter.d with blocks := ((y + 1 + m + 1 + 1).tmod 3 == 0) } (by omega) (fun _ _ _ => rfl) (lt5 rfl rfl rfl rfl rfl) h53 h63 rfl (fun g4 h54 h64 => ?_)
    ((conv=>whnf);repeat((first|refine Ct ‹_› ?_|refine Cf ‹_› ?_|refine Ct rfl ?_|refine Cf rfl ?_|refine Bi rfl ?_|refine Bz rfl ?_|refine Lr ?_);conv=>whnf))
    refine ⟨n - 1, i + 1, y + 1 + m + 1 + 1 + 1, g4, ?_, ?_, ?_⟩
    · rw [wrapI (n := i + 1) (by omega), wrapI (n := y + 1 + m + 1 + 1 + 1) (by omega)]; rfl
    · omega
    · exact ⟨by omega, by omega, by omega, by omega, h54, h64⟩
  · have hi' := of_decide_eq_false h
    ((conv=>whnf);repeat((first|refine Ct ‹_› ?_|refine Cf ‹_› ?_|refine Ct rfl ?_|refine Cf rfl ?_|refine Bi rfl ?_|refine Bz rfl ?_|refine Lr ?_);conv=>whnf))
    exact ⟨y, h3, by omega, rfl, rfl, rfl, rfl, rfl, rfl, trivial⟩

theorem F_markRules (r : Rul) (h : r.Sm) (k : Int) (h0 : 0 ≤ k) (hk : k ≤ 1048576) :
    FunE E0 45 [.agg [.own P0 r.ter.length, .own (P0 + 1) r.knd.length, cI r.stack, cI r.river, cI r.road, cI r.supply, cI r.turns], vI k] [(P0, rwT r.ter), (P0 + 1, rwK r.knd)]
      (Mkd k 1125899915231232 [(P0, rwT r.ter), (P0 + 1, rwK r.knd)]) := by
  refine FunE_of_xc k45 rfl ?_ ?_
  · rintro r o o' ⟨k', _, _, rfl, rfl, hs⟩
    match o', hs with
    | [(p, q), (p', q')], ⟨e, _, _, _, e', _⟩ => subst e; subst e'; rfl
  ((conv=>whnf);repeat((first|refine Ct ‹_› ?_|refine Cf ‹_› ?_|refine Ct rfl ?_|refine Cf rfl ?_|refine Bi rfl ?_|refine Bz rfl ?_|refine Lr ?_);conv=>whnf))
  refine CallR_e (F_markTerrainS r.ter k h.ter h.cost h0 (by omega)) ?_
  rintro _ _ o' ⟨k', h1, h2, rfl, rfl, hs⟩
  match o', hs with
  | [(p, q)], ⟨e, s1, s2, s3, _⟩ =>
    subst e
    refine ⟨⟨rfl, s1, s2, s3, trivial⟩, rfl, rfl, ?_⟩
    conv => whnf
    refine ⟨rfl, ?_⟩
    ((conv=>whnf);repeat((first|refine Ct ‹_› ?_|refine Cf ‹_› ?_|refine Ct rfl ?_|refine Cf rfl ?_|refine Bi rfl ?_|refine Bz rfl ?_|refine Lr ?_);conv=>whnf))
    refine CallR_e (F_markKindS r.knd k' h.knd (by omega) (by omega)) ?_
    rintro _ _ o' ⟨k2, h3, h4, rfl, rfl, hs⟩
    match o', hs with
    | [(p, q2)], ⟨e, t1, t2, t3, _⟩ =>
      subst e
      refine ⟨⟨rfl, t1, t2, t3, trivial⟩, rfl, rfl, ?_⟩
      conv => whnf
      refine ⟨rfl, ?_⟩
      ((conv=>whnf);repeat((first|refine Ct ‹_› ?_|refine Cf ‹_› ?_|refine Ct rfl ?_|refine Cf rfl ?_|refine Bi rfl ?_|refine Bz rfl ?_|refine Lr ?_);conv=>whnf))
      exact ⟨k2, by omega, by omega, rfl, rfl, rfl, s1, s2, s3, rfl, t1, t2, t3, trivial⟩

abbrev Brd.cp (b : Brd) : List Cell := [.own P0 b.r.ter.length, .own (P0 + 1) b.r.knd.length, cI b.r.stack, cI b.r.river, cI b.r.road, cI b.r.supply, cI b.r.turns, cI b.m.w, cI b.m.h, .own (P0 + 9) b.m.ter.length, .own (P0 + 10) b.m.riv.length, .own (P0 + 11) b.m.roa.length]

abbrev Brd.rowsP (b : Brd) : Ob := [(P0, rwT b.r.ter), (P0 + 1, rwK b.r.knd), (P0 + 9, rwI b.m.ter), (P0 + 10, rwI b.m.riv), (P0 + 11, rwI b.m.roa)]

theorem F_markBoard (b : Brd) (h : b.Sm) (k : Int) (h0 : 0 ≤ k) (hk : k ≤ 1048576) : FunE E0 18 [.agg b.cp, vI k] b.rowsP (Mkd k 1125899919425536 b.rowsP) := by
  refine FunE_of_xc k18 rfl ?_ ?_
  · rintro r o o' ⟨k', _, _, rfl, rfl, hs⟩
    match o', hs with
    | [(_, _), (_, _), (_, _), (_, _), (_, _)], ⟨e1, _, _, _, e2, _, _, _, e3, _, _, _, e4, _, _, _, e5, _⟩ => subst e1; subst e2; subst e3; subst e4; subst e5; rfl
  ((conv=>whnf);repeat((first|refine Ct ‹_› ?_|refine Cf ‹_› ?_|refine Ct rfl ?_|refine Cf rfl ?_|refine Bi rfl ?_|refine Bz rfl ?_|refine Lr ?_);conv=>whnf))
  refine CallR_e (F_markRules b.r h.r k h0 hk) ?_
  rintro _ _ o' ⟨k', h1, h2, rfl, rfl, hs⟩
  match o', hs with
  | [(p, q), (p', q')], ⟨e, s1, s2, s3, e', t1, t2, t3, _⟩ =>
    subst e
    subst e'
    refine ⟨⟨rfl, s1, s2, s3, rfl, t1, t2, t3, trivial⟩, rfl, rfl, ?_⟩
    conv => whnf
    refine ⟨rfl, ?_⟩
    ((conv=>whnf);repeat((first|refine Ct ‹_› ?_|refine Cf ‹_› ?_|refine Ct rfl ?_|refine Cf rfl ?_|refine Bi rfl ?_|refine Bz rfl ?_|refine Lr ?_);conv=>whnf))
    obtain ⟨k2, h3, h4, o2, hs2, hM⟩ := F_markMap b.m h.m k' (by omega) (by omega)
    match o2, hs2, hM with
    | [(_, q3), (_, q4), (_, q5)], ⟨e3, u1, u2, u3, e4, v1, v2, v3, e5, w1, w2, w3, _⟩, hM =>
      subst e3
      subst e4
      subst e5
      (refine CallR_some hM ⟨rfl, u1, u2, u3, rfl, v1, v2, v3, rfl, w1, w2, w3, trivial⟩ ?_ ?_ ?_ ?_; rfl; rfl; rfl); ((conv=>whnf);repeat((first|refine Ct ‹_› ?_|refine Cf ‹_› ?_|refine Ct rfl ?_|refine Cf rfl ?_|refine Bi rfl ?_|refine Bz rfl ?_|refine Lr ?_);conv=>whnf))
      exact ⟨k2, by omega, by omega, rfl, rfl, rfl, s1, s2, s3, rfl, t1, t2, t3, rfl, u1, u2, u3, rfl, v1, v2, v3, rfl, w1, w2, w3, trivial⟩

/-- a row of numbers to which one is appended -/
theorem rwI_app (l : List Int) (x : Int) (g : Nat → Nat → Cell) (h : g 0 0 = cI x) : RowEq (appRow (rwI l) 1 g) (rwI (l ++ [x])) := by
  refine ⟨rfl, rfl, by simp [appRow], fun i j hi hj => ?_⟩
  have hj : j < 1 := hj
  obtain rfl : j = 0 := by omega
  have hi : i < l.length + 1 := hi
  show (bif Nat.blt i l.length then cI (l.getD i 0) else g (i - l.length) 0) = cI ((l ++ [x]).getD i 0)
  by_cases e : i < l.length
  · have : Nat.blt i l.length = true := by simpa [Nat.blt_eq] using e
    rw [this]
    simp [List.getElem?_append, e]
  · have : Nat.blt i l.length = false := by
      rw [Bool.eq_false_iff]; intro h; exact e (by simpa [Nat.blt_eq] using h)
    rw [this, show i = l.length by omega]
    simp [h]

theorem rwI_nil (g : Nat → Nat → Cell) : RowEq ⟨false, 1, 0, g⟩ (rwI []) := ⟨rfl, rfl, rfl, fun i j hi _ => by simp at hi⟩

theorem drop_cons {α : Type} {l : List α} {d : α} {i : Int} (h0 : 0 ≤ i) (h1 : i < l.length) : l.drop i.toNat = l.getD i.toNat d :: l.drop (i + 1).toNat := drop_get h0 h1

theorem shape5 {k0 k1 k2 k3 k4 : Nat} {a0 a1 a2 a3 a4 : Row} {o : Ob} (h : Shape [(k0, a0), (k1, a1), (k2, a2), (k3, a3), (k4, a4)] o) : ∃ q0 q1 q2 q3 q4 : Nat × Row, o = [q0, q1, q2, q3, q4] ∧ k0 = q0.1 ∧ k1 = q1.1 ∧ k2 = q2.1 ∧ k3 = q3.1 ∧ k4 = q4.1 ∧
    (q0.2.deep = a0.deep ∧ q0.2.sz = a0.sz ∧ q0.2.n = a0.n) ∧ (q1.2.deep = a1.deep ∧ q1.2.sz = a1.sz ∧ q1.2.n = a1.n) ∧ (q2.2.deep = a2.deep ∧ q2.2.sz = a2.sz ∧ q2.2.n = a2.n) ∧ (q3.2.deep = a3.deep ∧ q3.2.sz = a3.sz ∧ q3.2.n = a3.n) ∧ (q4.2.deep = a4.deep ∧ q4.2.sz = a4.sz ∧ q4.2.n = a4.n) := by
  match o, h with
  | [(_, _), (_, _), (_, _), (_, _), (_, _)], ⟨e1, u1, u2, u3, e2, v1, v2, v3, e3, w1, w2, w3, e4, x1, x2, x3, e5, y1, y2, y3, _⟩ =>
    exact ⟨_, _, _, _, _, rfl, e1, e2, e3, e4, e5, ⟨u1, u2, u3⟩, ⟨v1, v2, v3⟩, ⟨w1, w2, w3⟩, ⟨x1, x2, x3⟩, ⟨y1, y2, y3⟩⟩

theorem F_szUnitS (l : List Unt) (hl : l.length ≤ maxLen) (left : Int) (h0 : 0 ≤ left) (h1 : left ≤ 1048576) : Fun E0 26 [.one (roU l), vI left] [] (.v (vI (sub1 left l.length))) [] [] := by
  have hl : l.length ≤ 9223372036854775807 := hl
  refine Fun_of_xc k26 rfl rfl (fun k q h => by cases h) ?_
  ((conv=>whnf);repeat((first|refine Ct ‹_› ?_|refine Cf ‹_› ?_|refine Ct rfl ?_|refine Cf rfl ?_|refine Bi rfl ?_|refine Bz rfl ?_|refine Lr ?_);conv=>whnf))
  rw [wrapI (by omega)]
  refine Cnd_i (fun g => ?_) (fun g => ?_)
  · have g := of_decide_eq_true g
    ((conv=>whnf);repeat((first|refine Ct ‹_› ?_|refine Cf ‹_› ?_|refine Ct rfl ?_|refine Cf rfl ?_|refine Bi rfl ?_|refine Bz rfl ?_|refine Lr ?_);conv=>whnf))
    rw [sub1, if_pos g]
    exact ⟨rfl, rfl, rfl⟩
  · have g := of_decide_eq_false g
    ((conv=>whnf);repeat((first|refine Ct ‹_› ?_|refine Cf ‹_› ?_|refine Ct rfl ?_|refine Cf rfl ?_|refine Bi rfl ?_|refine Bz rfl ?_|refine Lr ?_);conv=>whnf))
    rw [sub1, if_neg g]
    exact ⟨rfl, rfl, rfl⟩

def szSt (s : Stt) (left : Int) : Int := sub1 left s.un.length

structure Stt.Sm (s : Stt) : Prop where
  un : s.un.length ≤ 1048576

theorem szSt_sm {s : Stt} {x : Int} (h0 : 0 ≤ x) (h1 : x ≤ 1048576) (h : ¬ szSt s x < 0) : s.Sm ∧ szSt s x ≤ 1048576 := by
  have := sub1_sm h
  have e : szSt s x = sub1 x s.un.length := rfl
  exact ⟨⟨by omega⟩, by omega⟩

theorem F_szState (s : Stt) (hs : s.Ok) (left : Int) (h0 : 0 ≤ left) (h1 : left ≤ 1048576) : Fun E0 7 [.agg s.cs, vI left] [] (.v (vI (szSt s left))) [] [] := by
  refine Fun_of_xc k7 rfl rfl (fun k q h => by cases h) ?_
  ((conv=>whnf);repeat((first|refine Ct ‹_› ?_|refine Cf ‹_› ?_|refine Ct rfl ?_|refine Cf rfl ?_|refine Bi rfl ?_|refine Bz rfl ?_|refine Lr ?_);conv=>whnf))
  (refine CallQ_some (F_szUnitS s.un hs.lun left h0 h1) ?_ ?_ ?_; rfl; rfl); ((conv=>whnf);repeat((first|refine Ct ‹_› ?_|refine Cf ‹_› ?_|refine Ct rfl ?_|refine Cf rfl ?_|refine Bi rfl ?_|refine Bz rfl ?_|refine Lr ?_);conv=>whnf))
  refine Cnd_i (fun g => ?_) (fun g => ?_)
  · have g := of_decide_eq_true g
    have e : szSt s left = -1 := by
      unfold szSt sub1
      unfold sub1 at g
      by_cases h : left - s.un.length < 0
      · rw [if_pos h]
      · rw [if_neg h] at g; omega
    ((conv=>whnf);repeat((first|refine Ct ‹_› ?_|refine Cf ‹_› ?_|refine Ct rfl ?_|refine Cf rfl ?_|refine Bi rfl ?_|refine Bz rfl ?_|refine Lr ?_);conv=>whnf))
    rw [e]
    exact ⟨rfl, rfl, rfl⟩
  · ((conv=>whnf);repeat((first|refine Ct ‹_› ?_|refine Cf ‹_› ?_|refine Ct rfl ?_|refine Cf rfl ?_|refine Bi rfl ?_|refine Bz rfl ?_|refine Lr ?_);conv=>whnf))
    exact ⟨rfl, rfl, rfl⟩

theorem F_toUnit (u : Unt) : Fun E0 65 [.agg u.cs] [] (.v (.agg u.cs)) [] [] := by
  refine Fun_of_xc k65 rfl rfl (fun k q h => by cases h) ?_
  ((conv=>whnf);repeat((first|refine Ct ‹_› ?_|refine Cf ‹_› ?_|refine Ct rfl ?_|refine Cf rfl ?_|refine Bi rfl ?_|refine Bz rfl ?_|refine Lr ?_);conv=>whnf))
  exact ⟨rfl, rfl, rfl⟩

abbrev Unt.cz : List Cell := [cI 0, cI 0, cI 0, cI 0]

abbrev rwU (l : List Unt) : Row := ⟨false, 4, l.length, fun i j => nth (l.getD i Unt.d).cs j⟩

abbrev rwUu (l : List Unt) (k : Int) : Row := ⟨false, 4, l.length, fun i j => if (i : Int) < k ∨ l.length ≤ i then nth (l.getD i Unt.d).cs j else nth Unt.cz j⟩

theorem lt4 {p : Nat → Prop} (h0 : p 0) (h1 : p 1) (h2 : p 2) (h3 : p 3) : ∀ j, j < 4 → p j := by
  intro j hj
  match j, hj with
  | 0, _ => exact h0
  | 1, _ => exact h1
  | 2, _ => exact h2
  | 3, _ => exact h3

abbrev rwUn (n : Nat) (l : List Unt) : Row := ⟨false, 4, n, fun i j => nth (l.getD i Unt.d).cs j⟩

theorem rwUn_no (n : Nat) (l : List Unt) : NoRo (rwUn n l) := by
  intro i j _ hj
  have hj : j < 4 := hj
  match j, hj with
  | 0, _ => rfl
  | 1, _ => rfl
  | 2, _ => rfl
  | 3, _ => rfl

theorem rwU_no (l : List Unt) : NoRo (rwU l) := rwUn_no l.length l

theorem F_toUnitS (l : List Unt) (hl : l.length ≤ 1048576) : Fun E0 31 [.one (roU l)] [] (.v (.one (.own 0 l.length))) [(0, rwU l)] [] := by
  refine Fun_of_xc k31 rfl rfl (nrC (rwU_no _) nrN) ?_
  ((conv=>whnf);repeat((first|refine Ct ‹_› ?_|refine Cf ‹_› ?_|refine Ct rfl ?_|refine Cf rfl ?_|refine Bi rfl ?_|refine Bz rfl ?_|refine Lr ?_);conv=>whnf))
  refine Rw_self ?_
  ((conv=>whnf);repeat((first|refine Ct ‹_› ?_|refine Cf ‹_› ?_|refine Ct rfl ?_|refine Cf rfl ?_|refine Bi rfl ?_|refine Bz rfl ?_|refine Lr ?_);conv=>whnf))
  refine Bnd_i (by omega) ?_
  ((conv=>whnf);repeat((first|refine Ct ‹_› ?_|refine Cf ‹_› ?_|refine Ct rfl ?_|refine Cf rfl ?_|refine Bi rfl ?_|refine Bz rfl ?_|refine Lr ?_);conv=>whnf))
  refine Rw_i (rwUu l 0) ⟨rfl, rfl, by simp [zeroRow], fun i j hi hj => ?_⟩ ?_
  · have hi : i < l.length := by simpa [zeroRow] using hi
    show nth Unt.cz j = if (i : Int) < 0 ∨ l.length ≤ i then nth (l.getD i Unt.d).cs j else nth Unt.cz j
    rw [if_neg (by omega)]
  ((conv=>whnf);repeat((first|refine Ct ‹_› ?_|refine Cf ‹_› ?_|refine Ct rfl ?_|refine Cf rfl ?_|refine Bi rfl ?_|refine Bz rfl ?_|refine Lr ?_);conv=>whnf))
  refine WLoop_v ⟨[0, 3, 4], [], []⟩ (fun i : Int => hdS 23 [(0, .v (.one (roU l))), (3, .v (.one (.own (vkey 3) l.length))), (4, .v (vI i))] [] [(vkey 3, rwUu l i)])
    (fun k i => 0 ≤ i ∧ i + k = l.length) l.length 0 rfl ⟨by omega, by omega⟩ ?_
  rintro k i ⟨h1, h2⟩
  ((conv=>whnf);repeat((first|refine Ct ‹_› ?_|refine Cf ‹_› ?_|refine Ct rfl ?_|refine Cf rfl ?_|refine Bi rfl ?_|refine Bz rfl ?_|refine Lr ?_);conv=>whnf))
  refine Cnd_i (fun h => ?_) (fun h => ?_)
  · have hi' : i < l.length := of_decide_eq_true h
    ((conv=>whnf);repeat((first|refine Ct ‹_› ?_|refine Cf ‹_› ?_|refine Ct rfl ?_|refine Cf rfl ?_|refine Bi rfl ?_|refine Bz rfl ?_|refine Lr ?_);conv=>whnf))
    refine Bnd_i (⟨h1, hi'⟩) ?_; ((conv=>whnf);repeat((first|refine Ct ‹_› ?_|refine Cf ‹_› ?_|refine Ct rfl ?_|refine Cf rfl ?_|refine Bi rfl ?_|refine Bz rfl ?_|refine Lr ?_);conv=>whnf))
    (refine CallQ_some (F_toUnit (l.getD i.toNat Unt.d)) ?_ ?_ ?_; rfl; rfl); ((conv=>whnf);repeat((first|refine Ct ‹_› ?_|refine Cf ‹_› ?_|refine Ct rfl ?_|refine Cf rfl ?_|refine Bi rfl ?_|refine Bz rfl ?_|refine Lr ?_);conv=>whnf))
    refine Bnd_i (⟨h1, hi'⟩) ?_; ((conv=>whnf);repeat((first|refine Ct ‹_› ?_|refine Cf ‹_› ?_|refine Ct rfl ?_|refine Cf rfl ?_|refine Bi rfl ?_|refine Bz rfl ?_|refine Lr ?_);conv=>whnf))
    refine Rw_i (rwUu l (i + 1)) ⟨rfl, rfl, rfl, fun i' j hi hj => ?_⟩ ?_
    · have hj : j < 4 := hj
      have hi : i' < l.length := hi
      show wrG (rwUu l i).get i.toNat 0 (l.getD i.toNat Unt.d).cs i' j = if (i' : Int) < i + 1 ∨ l.length ≤ i' then nth (l.getD i' Unt.d).cs j else nth Unt.cz j
      by_cases e : i' = i.toNat
      · subst e
        rw [wrG_in (by simp; omega), if_pos (by omega)]; rfl
      · rw [wrG_out (fun hh => e hh.1)]
        show (if (i' : Int) < i ∨ l.length ≤ i' then nth (l.getD i' Unt.d).cs j else nth Unt.cz j) = _
        by_cases e2 : (i' : Int) < i
        · rw [if_pos (.inl e2), if_pos (.inl (by omega))]
        · rw [if_neg (by omega), if_neg (by omega)]
    ((conv=>whnf);repeat((first|refine Ct ‹_› ?_|refine Cf ‹_› ?_|refine Ct rfl ?_|refine Cf rfl ?_|refine Bi rfl ?_|refine Bz rfl ?_|refine Lr ?_);conv=>whnf))
    refine ⟨k - 1, i + 1, ?_, ?_, ?_, ?_⟩
    · rw [wrapI (by omega)]; rfl
    · omega
    · omega
    · omega
  · have hi' := of_decide_eq_false h
    ((conv=>whnf);repeat((first|refine Ct ‹_› ?_|refine Cf ‹_› ?_|refine Ct rfl ?_|refine Cf rfl ?_|refine Bi rfl ?_|refine Bz rfl ?_|refine Lr ?_);conv=>whnf))
    have e : rwUu l i = rwU l := by
      unfold rwUu rwU
      congr 1
      funext i' j
      rw [if_pos (by omega)]
    rw [e]
    exact ⟨rfl, rfl, rfl⟩

theorem F_toState (s : Stt) (h : s.Sm) : Fun E0 10 [.agg s.cs] [] (.v (.agg [cI s.turn, cI s.wea, .own 2 s.un.length])) [(2, rwU s.un)] [] := by
  refine Fun_of_xc k10 rfl rfl (nrC (rwU_no _) nrN) ?_
  ((conv=>whnf);repeat((first|refine Ct ‹_› ?_|refine Cf ‹_› ?_|refine Ct rfl ?_|refine Cf rfl ?_|refine Bi rfl ?_|refine Bz rfl ?_|refine Lr ?_);conv=>whnf))
  (refine CallQ_some (F_toUnitS s.un h.un) ?_ ?_ ?_; rfl; rfl); ((conv=>whnf);repeat((first|refine Ct ‹_› ?_|refine Cf ‹_› ?_|refine Ct rfl ?_|refine Cf rfl ?_|refine Bi rfl ?_|refine Bz rfl ?_|refine Lr ?_);conv=>whnf))
  exact ⟨rfl, rfl, rfl⟩

theorem F_eqUnit (u : Unt) : Fun E0 73 [.agg u.cs, .agg u.cs] [] (.v (vB true)) [] [] := by
  refine Fun_of_xc k73 rfl rfl (fun k q h => by cases h) ?_
  ((conv=>whnf);repeat((first|refine Ct ‹_› ?_|refine Cf ‹_› ?_|refine Ct rfl ?_|refine Cf rfl ?_|refine Bi rfl ?_|refine Bz rfl ?_|refine Lr ?_);conv=>whnf))
  repeat (refine Cnd_f (by simp) ?_; ((conv=>whnf);repeat((first|refine Ct ‹_› ?_|refine Cf ‹_› ?_|refine Ct rfl ?_|refine Cf rfl ?_|refine Bi rfl ?_|refine Bz rfl ?_|refine Lr ?_);conv=>whnf)))
  exact ⟨rfl, rfl, rfl⟩

theorem F_eqUnitS (l : List Unt) (hl : l.length ≤ 1048576) : Fun E0 36 [.one (roU l), .one (roU l)] [] (.v (vB true)) [] [] := by
  refine Fun_of_xc k36 rfl rfl (fun k q h => by cases h) ?_
  ((conv=>whnf);repeat((first|refine Ct ‹_› ?_|refine Cf ‹_› ?_|refine Ct rfl ?_|refine Cf rfl ?_|refine Bi rfl ?_|refine Bz rfl ?_|refine Lr ?_);conv=>whnf))
  refine Cnd_f (by simp) ?_; ((conv=>whnf);repeat((first|refine Ct ‹_› ?_|refine Cf ‹_› ?_|refine Ct rfl ?_|refine Cf rfl ?_|refine Bi rfl ?_|refine Bz rfl ?_|refine Lr ?_);conv=>whnf))
  refine WLoop_v ⟨[0, 1, 5], [], []⟩ (fun i : Int => hdS 27 [(0, .v (.one (roU l))), (1, .v (.one (roU l))), (5, .v (vI i))] [] [])
    (fun k i => 0 ≤ i ∧ i + k = l.length) l.length 0 rfl ⟨by omega, by omega⟩ ?_
  rintro k i ⟨h1, h2⟩
  ((conv=>whnf);repeat((first|refine Ct ‹_› ?_|refine Cf ‹_› ?_|refine Ct rfl ?_|refine Cf rfl ?_|refine Bi rfl ?_|refine Bz rfl ?_|refine Lr ?_);conv=>whnf))
  refine Cnd_i (fun h => ?_) (fun h => ?_)
  · have hi' : i < l.length := of_decide_eq_true h
    ((conv=>whnf);repeat((first|refine Ct ‹_› ?_|refine Cf ‹_› ?_|refine Ct rfl ?_|refine Cf rfl ?_|refine Bi rfl ?_|refine Bz rfl ?_|refine Lr ?_);conv=>whnf))
    refine Bnd_i (⟨h1, hi'⟩) ?_; ((conv=>whnf);repeat((first|refine Ct ‹_› ?_|refine Cf ‹_› ?_|refine Ct rfl ?_|refine Cf rfl ?_|refine Bi rfl ?_|refine Bz rfl ?_|refine Lr ?_);conv=>whnf))
    refine Bnd_i (⟨h1, hi'⟩) ?_; ((conv=>whnf);repeat((first|refine Ct ‹_› ?_|refine Cf ‹_› ?_|refine Ct rfl ?_|refine Cf rfl ?_|refine Bi rfl ?_|refine Bz rfl ?_|refine Lr ?_);conv=>whnf))
    (refine CallQ_some (F_eqUnit (l.getD i.toNat Unt.d)) ?_ ?_ ?_; rfl; rfl); ((conv=>whnf);repeat((first|refine Ct ‹_› ?_|refine Cf ‹_› ?_|refine Ct rfl ?_|refine Cf rfl ?_|refine Bi rfl ?_|refine Bz rfl ?_|refine Lr ?_);conv=>whnf))
    refine ⟨k - 1, i + 1, ?_, ?_, ?_, ?_⟩
    · rw [wrapI (by omega)]; rfl
    · omega
    · omega
    · omega
  · ((conv=>whnf);repeat((first|refine Ct ‹_› ?_|refine Cf ‹_› ?_|refine Ct rfl ?_|refine Cf rfl ?_|refine Bi rfl ?_|refine Bz rfl ?_|refine Lr ?_);conv=>whnf))
    exact ⟨rfl, rfl, rfl⟩

theorem F_eqState (s : Stt) (h : s.Sm) : Fun E0 13 [.agg s.cs, .agg s.cs] [] (.v (vB true)) [] [] := by
  refine Fun_of_xc k13 rfl rfl (fun k q h => by cases h) ?_
  ((conv=>whnf);repeat((first|refine Ct ‹_› ?_|refine Cf ‹_› ?_|refine Ct rfl ?_|refine Cf rfl ?_|refine Bi rfl ?_|refine Bz rfl ?_|refine Lr ?_);conv=>whnf))
  repeat (refine Cnd_f (by simp) ?_; ((conv=>whnf);repeat((first|refine Ct ‹_› ?_|refine Cf ‹_› ?_|refine Ct rfl ?_|refine Cf rfl ?_|refine Bi rfl ?_|refine Bz rfl ?_|refine Lr ?_);conv=>whnf)))
  (refine CallQ_some (F_eqUnitS s.un h.un) ?_ ?_ ?_; rfl; rfl); ((conv=>whnf);repeat((first|refine Ct ‹_› ?_|refine Cf ‹_› ?_|refine Ct rfl ?_|refine Cf rfl ?_|refine Bi rfl ?_|refine Bz rfl ?_|refine Lr ?_);conv=>whnf))
  exact ⟨rfl, rfl, rfl⟩

theorem snapU (l : List Unt) : Cell.ro 4 l.length (fun i j => toRo (nth (l.getD i Unt.d).cs j)) = roU l := by
  unfold roU
  congr 1
  funext i j
  rw [toRo_nth]; rfl

theorem snapBS (b : Brd) (s : Stt) (L : List V) :
    V.agg [.ro 5 b.r.ter.length fun i j => toRo (nth (b.r.ter.getD i Ter.d).cw j), .ro 6 b.r.knd.length fun i j => toRo (nth (b.r.knd.getD i Knd.d).cs j), cI b.r.stack, cI b.r.river, cI b.r.road, cI b.r.supply, cI b.r.turns,
      cI b.m.w, cI b.m.h, roI b.m.ter, roI b.m.riv, roI b.m.roa] :: V.agg [cI s.turn, cI s.wea, .ro 4 s.un.length (fun i j => toRo (nth (s.un.getD i Unt.d).cs j))] :: L = V.agg b.cs :: V.agg s.cs :: L := by rw [snapT, snapK, snapU]

theorem snapSS (s : Stt) :
    [V.agg [cI s.turn, cI s.wea, .ro 4 s.un.length (fun i j => toRo (nth (s.un.getD i Unt.d).cs j))], V.agg [cI s.turn, cI s.wea, .ro 4 s.un.length (fun i j => toRo (nth (s.un.getD i Unt.d).cs j))]] = [V.agg s.cs, V.agg s.cs] := by rw [snapU]

/-- units that bear the marks from k on -/
def mkUs (k : Int) (n : Nat) : List Unt := (List.range n).map fun i : Nat => ⟨k + 4 * i, k + 4 * i + 1, k + 4 * i + 2, k + 4 * i + 3⟩

theorem mkUs_len (k : Int) (n : Nat) : (mkUs k n).length = n := by simp [mkUs]

theorem mkUs_succ (k : Int) (n : Nat) : mkUs k (n + 1) = mkUs k n ++ [⟨k + 4 * n, k + 4 * n + 1, k + 4 * n + 2, k + 4 * n + 3⟩] := by simp [mkUs, List.range_succ]

theorem Rw_U {n i o : Nat} {c : Cell} {l : List Unt} {K : Row → Prop} (u t' : Unt) (hi : i < l.length) (hu : l.getD i Unt.d = u) (h : ∀ j, j < 4 → (if j = o then c else nth u.cs j) = nth t'.cs j)
    (hk : K (rwUn n (l.set i t'))) : Rw ⟨false, 4, n, wrG (rwUn n l).get i o [c]⟩ K := by
  refine Rw_i (rwUn n (l.set i t')) ⟨rfl, rfl, rfl, fun i' j _ hj => ?_⟩ hk
  have hj : j < 4 := hj
  show wrG (fun i j => nth (l.getD i Unt.d).cs j) i o [c] i' j = nth ((l.set i t').getD i' Unt.d).cs j
  by_cases e : i' = i
  · subst e
    have e1 : (l.set i' t').getD i' Unt.d = t' := by simp [hi]
    rw [e1, ← h j hj]
    by_cases e2 : j = o
    · subst e2
      rw [wrG_in (by simp), if_pos rfl]; simp [nth]
    · rw [wrG_out (fun hh => e2 (by simp at hh; omega)), if_neg e2, hu]
  · have e1 : (l.set i t').getD i' Unt.d = l.getD i' Unt.d := by simp [List.getElem?_set, Ne.symm e]
    rw [wrG_out (fun hh => e hh.1), e1]

theorem set_getD {α : Type} {l : List α} {i : Nat} {a d : α} (h : i < l.length) : (l.set i a).getD i d = a := by simp [h]

theorem set_mid {α : Type} (a : List α) (x y : α) (b : List α) {i : Nat} (h : i = a.length) : (a ++ x :: b).set i y = a ++ y :: b := by
  subst h
  simp

theorem F_markUnitS (l : List Unt) (k : Int) (hl : l.length ≤ 1048576) (h0 : 0 ≤ k) (hk : k ≤ 1152921504606846976) :
    Fun E0 47 [.one (.own P0 l.length), vI k] [(P0, rwU l)] (.v (vI (k + 4 * l.length))) [] [(P0, rwUn l.length (mkUs k l.length))] := by
  refine Fun_of_xc k47 rfl rfl (nrC (rwUn_no _ _) nrN) ?_
  ((conv=>whnf);repeat((first|refine Ct ‹_› ?_|refine Cf ‹_› ?_|refine Ct rfl ?_|refine Cf rfl ?_|refine Bi rfl ?_|refine Bz rfl ?_|refine Lr ?_);conv=>whnf))
  refine WLoop_v ⟨[0, 1, 5], [], []⟩ (fun i : Int => hdS 41 [(0, .v (.one (.own P0 l.length))), (1, .v (vI (k + 4 * i))), (5, .v (vI i))] [] [(P0, rwUn l.length (mkUs k i.toNat ++ l.drop i.toNat))])
    (fun n i => 0 ≤ i ∧ i + n = l.length) l.length 0 (by rw [show k + 4 * (0 : Int) = k by omega]; rfl) ⟨by omega, by omega⟩ ?_
  rintro n i ⟨h1, h2⟩
  ((conv=>whnf);repeat((first|refine Ct ‹_› ?_|refine Cf ‹_› ?_|refine Ct rfl ?_|refine Cf rfl ?_|refine Bi rfl ?_|refine Bz rfl ?_|refine Lr ?_);conv=>whnf))
  refine Cnd_i (fun h => ?_) (fun h => ?_)
  · have hi' : i < l.length := of_decide_eq_true h
    have hdr := drop_cons (d := Unt.d) h1 hi'
    have hlen : i.toNat < (mkUs k i.toNat ++ l.drop i.toNat).length := by rw [List.length_append, mkUs_len, List.length_drop]; omega
    have hlast : (mkUs k i.toNat ++ l.drop i.toNat).set i.toNat ⟨k + 4 * i, k + 4 * i + 1, k + 4 * i + 2, k + 4 * i + 3⟩ = mkUs k (i + 1).toNat ++ l.drop (i + 1).toNat := by
      rw [hdr, set_mid _ _ _ _ (mkUs_len _ _).symm, show (i + 1).toNat = i.toNat + 1 by omega, mkUs_succ, show ((i.toNat : Nat) : Int) = i by omega]
      simp
    generalize mkUs k i.toNat ++ l.drop i.toNat = L at hlen hlast ⊢
    ((conv=>whnf);repeat((first|refine Ct ‹_› ?_|refine Cf ‹_› ?_|refine Ct rfl ?_|refine Cf rfl ?_|refine Bi rfl ?_|refine Bz rfl ?_|refine Lr ?_);conv=>whnf))
    refine Bnd_i (⟨h1, hi'⟩) ?_; ((conv=>whnf);repeat((first|refine Ct ‹_› ?_|refine Cf ‹_› ?_|refine Ct rfl ?_|refine Cf rfl ?_|refine Bi rfl ?_|refine Bz rfl ?_|refine Lr ?_);conv=>whnf))
    refine Rw_U (L.getD i.toNat Unt.d) { L.getD i.toNat Unt.d with side := k + 4 * i } hlen rfl (lt4 rfl rfl rfl rfl) ?_
    ((conv=>whnf);repeat((first|refine Ct ‹_› ?_|refine Cf ‹_› ?_|refine Ct rfl ?_|refine Cf rfl ?_|refine Bi rfl ?_|refine Bz rfl ?_|refine Lr ?_);conv=>whnf))
    rw [wrapI (n := k + 4 * i + 1) (by omega)]
    refine Bnd_i (⟨h1, hi'⟩) ?_; ((conv=>whnf);repeat((first|refine Ct ‹_› ?_|refine Cf ‹_› ?_|refine Ct rfl ?_|refine Cf rfl ?_|refine Bi rfl ?_|refine Bz rfl ?_|refine Lr ?_);conv=>whnf))
    refine Rw_U { L.getD i.toNat Unt.d with side := k + 4 * i } { L.getD i.toNat Unt.d with side := k + 4 * i, kind := k + 4 * i + 1 } (by simp; exact hlen) (set_getD hlen) (lt4 rfl rfl rfl rfl) ?_
    rw [List.set_set]
    ((conv=>whnf);repeat((first|refine Ct ‹_› ?_|refine Cf ‹_› ?_|refine Ct rfl ?_|refine Cf rfl ?_|refine Bi rfl ?_|refine Bz rfl ?_|refine Lr ?_);conv=>whnf))
    rw [wrapI (n := k + 4 * i + 1 + 1) (by omega)]
    refine Bnd_i (⟨h1, hi'⟩) ?_; ((conv=>whnf);repeat((first|refine Ct ‹_› ?_|refine Cf ‹_› ?_|refine Ct rfl ?_|refine Cf rfl ?_|refine Bi rfl ?_|refine Bz rfl ?_|refine Lr ?_);conv=>whnf))
    refine Rw_U { L.getD i.toNat Unt.d with side := k + 4 * i, kind := k + 4 * i + 1 } { L.getD i.toNat Unt.d with side := k + 4 * i, kind := k + 4 * i + 1, at' := k + 4 * i + 1 + 1 } (by simp; exact hlen) (set_getD hlen) (lt4 rfl rfl rfl rfl) ?_
    rw [List.set_set]
    ((conv=>whnf);repeat((first|refine Ct ‹_› ?_|refine Cf ‹_› ?_|refine Ct rfl ?_|refine Cf rfl ?_|refine Bi rfl ?_|refine Bz rfl ?_|refine Lr ?_);conv=>whnf))
    rw [wrapI (n := k + 4 * i + 1 + 1 + 1) (by omega)]
    refine Bnd_i (⟨h1, hi'⟩) ?_; ((conv=>whnf);repeat((first|refine Ct ‹_› ?_|refine Cf ‹_› ?_|refine Ct rfl ?_|refine Cf rfl ?_|refine Bi rfl ?_|refine Bz rfl ?_|refine Lr ?_);conv=>whnf))
    refine Rw_U { L.getD i.toNat Unt.d with side := k + 4 * i, kind := k + 4 * i + 1, at' := k + 4 * i + 1 + 1 } ⟨k + 4 * i, k + 4 * i + 1, k + 4 * i + 1 + 1, k + 4 * i + 1 + 1 + 1⟩ (by simp; exact hlen) (set_getD hlen) (lt4 rfl rfl rfl rfl) ?_
    rw [List.set_set, show k + 4 * i + 1 + 1 + 1 = k + 4 * i + 3 by omega, show k + 4 * i + 1 + 1 = k + 4 * i + 2 by omega, hlast]
    ((conv=>whnf);repeat((first|refine Ct ‹_› ?_|refine Cf ‹_› ?_|refine Ct rfl ?_|refine Cf rfl ?_|refine Bi rfl ?_|refine Bz rfl ?_|refine Lr ?_);conv=>whnf))
    refine ⟨n - 1, i + 1, ?_, ?_, ?_, ?_⟩
    · rw [wrapI (n := i + 1) (by omega), wrapI (by omega), show k + 4 * i + 3 + 1 = k + 4 * (i + 1) by omega]; rfl
    · omega
    · omega
    · omega
  · have hi' := of_decide_eq_false h
    ((conv=>whnf);repeat((first|refine Ct ‹_› ?_|refine Cf ‹_› ?_|refine Ct rfl ?_|refine Cf rfl ?_|refine Bi rfl ?_|refine Bz rfl ?_|refine Lr ?_);conv=>whnf))
    rw [show mkUs k i.toNat ++ l.drop i.toNat = mkUs k l.length by rw [show i.toNat = l.length by omega, List.drop_length, List.append_nil], show i = (l.length : Int) by omega]
    exact ⟨rfl, rfl, rfl⟩

theorem F_markState (s : Stt) (k : Int) (h : s.Sm) (h0 : 0 ≤ k) (hk : k ≤ 1152921504606846976) :
    Fun E0 19 [.agg [cI s.turn, cI s.wea, .own (P0 + 2) s.un.length], vI k] [(P0 + 2, rwU s.un)] (.v (vI (k + 4 * s.un.length))) [] [(P0 + 2, rwUn s.un.length (mkUs k s.un.length))] := by
  refine Fun_of_xc k19 rfl rfl (nrC (rwUn_no _ _) nrN) ?_
  ((conv=>whnf);repeat((first|refine Ct ‹_› ?_|refine Cf ‹_› ?_|refine Ct rfl ?_|refine Cf rfl ?_|refine Bi rfl ?_|refine Bz rfl ?_|refine Lr ?_);conv=>whnf))
  (refine CallR_some (F_markUnitS s.un k h.un h0 hk) (by repeat (first | exact trivial | refine ⟨rfl, rfl, rfl, rfl, ?_⟩)) ?_ ?_ ?_ ?_; rfl; rfl; rfl); ((conv=>whnf);repeat((first|refine Ct ‹_› ?_|refine Cf ‹_› ?_|refine Ct rfl ?_|refine Cf rfl ?_|refine Bi rfl ?_|refine Bz rfl ?_|refine Lr ?_);conv=>whnf))
  exact ⟨rfl, rfl, rfl⟩

theorem F_isSide (i : Int) : Fun E0 41 [vI i] [] (.v (vB (In i 0 1))) [] [] := by
  refine Fun_of_xc k41 rfl rfl (fun k q h => by cases h) ?_
  ((conv=>whnf);repeat((first|refine Ct ‹_› ?_|refine Cf ‹_› ?_|refine Ct rfl ?_|refine Cf rfl ?_|refine Bi rfl ?_|refine Bz rfl ?_|refine Lr ?_);conv=>whnf))
  (refine CallQ_some (F_inRange _ _ _) ?_ ?_ ?_; rfl; rfl); ((conv=>whnf);repeat((first|refine Ct ‹_› ?_|refine Cf ‹_› ?_|refine Ct rfl ?_|refine Cf rfl ?_|refine Bi rfl ?_|refine Bz rfl ?_|refine Lr ?_);conv=>whnf))
  exact ⟨rfl, rfl, rfl⟩

def okUnt (b : Brd) (u : Unt) : Bool := In u.side 0 1 && In u.kind 0 (b.r.knd.length - 1) && In u.ste 0 (b.r.knd.getD u.kind.toNat Knd.d).ste &&
  (u.at' == -1 || (decide (u.ste > 0) && In u.at' 0 (b.m.w * b.m.h - 1) && decide (costAt b u.kind u.at' > 0)))

structure UnOk (b : Brd) (u : Unt) : Prop where
  side : u.side = 0 ∨ u.side = 1
  kind : 0 ≤ u.kind ∧ u.kind < b.r.knd.length
  ste : 0 ≤ u.ste ∧ u.ste ≤ (b.r.knd.getD u.kind.toNat Knd.d).ste
  at' : u.at' = -1 ∨ (0 ≤ u.at' ∧ u.at' < b.m.ter.length ∧ 0 < u.ste ∧ 0 < costAt b u.kind u.at')

theorem UnOk.of {b : Brd} (h : GB b) {u : Unt} (hu : okUnt b u = true) : UnOk b u := by
  simp only [okUnt, Bool.and_eq_true, Bool.or_eq_true, beq_iff_eq] at hu
  obtain ⟨⟨⟨h1, h2⟩, h3⟩, h4⟩ := hu
  have a1 := of_decide_eq_true h1
  have a2 := of_decide_eq_true h2
  have a3 := of_decide_eq_true h3
  refine ⟨by omega, by omega, a3, ?_⟩
  rcases h4 with h4 | ⟨⟨h4, h5⟩, h6⟩
  · exact .inl h4
  · have a4 := of_decide_eq_true h4
    have a5 := of_decide_eq_true h5
    have a6 := of_decide_eq_true h6
    have := h.n
    exact .inr ⟨a5.1, by omega, a4, a6⟩

theorem F_sUnit (b : Brd) (h : GB b) (u : Unt) : Fun E0 60 [.agg b.cs, .agg u.cs] [] (.v (vB (okUnt b u))) [] [] := by
  have hk := h.k1
  have hm := h.wh.mul
  have hn := h.n
  refine Fun_of_xc k60 rfl rfl (fun k q h => by cases h) ?_
  ((conv=>whnf);repeat((first|refine Ct ‹_› ?_|refine Cf ‹_› ?_|refine Ct rfl ?_|refine Cf rfl ?_|refine Bi rfl ?_|refine Bz rfl ?_|refine Lr ?_);conv=>whnf))
  (refine CallQ_some (F_l1In _ _ _) ?_ ?_ ?_; rfl; rfl); ((conv=>whnf);repeat((first|refine Ct ‹_› ?_|refine Cf ‹_› ?_|refine Ct rfl ?_|refine Cf rfl ?_|refine Bi rfl ?_|refine Bz rfl ?_|refine Lr ?_);conv=>whnf))
  refine Cnd_i (fun g => ?_) (fun g => ?_)
  · have e1 : In u.side 0 1 = false := by simpa using g
    ((conv=>whnf);repeat((first|refine Ct ‹_› ?_|refine Cf ‹_› ?_|refine Ct rfl ?_|refine Cf rfl ?_|refine Bi rfl ?_|refine Bz rfl ?_|refine Lr ?_);conv=>whnf))
    rw [okUnt, e1]
    exact ⟨rfl, rfl, rfl⟩
  have e1 : In u.side 0 1 = true := by simpa using g
  ((conv=>whnf);repeat((first|refine Ct ‹_› ?_|refine Cf ‹_› ?_|refine Ct rfl ?_|refine Cf rfl ?_|refine Bi rfl ?_|refine Bz rfl ?_|refine Lr ?_);conv=>whnf))
  rw [wrapI (n := (b.r.knd.length : Int) - 1) (by omega)]
  (refine CallQ_some (F_l1In _ _ _) ?_ ?_ ?_; rfl; rfl); ((conv=>whnf);repeat((first|refine Ct ‹_› ?_|refine Cf ‹_› ?_|refine Ct rfl ?_|refine Cf rfl ?_|refine Bi rfl ?_|refine Bz rfl ?_|refine Lr ?_);conv=>whnf))
  refine Cnd_i (fun g2 => ?_) (fun g2 => ?_)
  · have e2 : In u.kind 0 (b.r.knd.length - 1) = false := by simpa using g2
    ((conv=>whnf);repeat((first|refine Ct ‹_› ?_|refine Cf ‹_› ?_|refine Ct rfl ?_|refine Cf rfl ?_|refine Bi rfl ?_|refine Bz rfl ?_|refine Lr ?_);conv=>whnf))
    rw [okUnt, e1, e2]
    exact ⟨rfl, rfl, rfl⟩
  have e2 : In u.kind 0 (b.r.knd.length - 1) = true := by simpa using g2
  have d2 := of_decide_eq_true e2
  ((conv=>whnf);repeat((first|refine Ct ‹_› ?_|refine Cf ‹_› ?_|refine Ct rfl ?_|refine Cf rfl ?_|refine Bi rfl ?_|refine Bz rfl ?_|refine Lr ?_);conv=>whnf))
  refine Bnd_i (⟨d2.1, by omega⟩) ?_; ((conv=>whnf);repeat((first|refine Ct ‹_› ?_|refine Cf ‹_› ?_|refine Ct rfl ?_|refine Cf rfl ?_|refine Bi rfl ?_|refine Bz rfl ?_|refine Lr ?_);conv=>whnf))
  (refine CallQ_some (F_l1In _ _ _) ?_ ?_ ?_; rfl; rfl); ((conv=>whnf);repeat((first|refine Ct ‹_› ?_|refine Cf ‹_› ?_|refine Ct rfl ?_|refine Cf rfl ?_|refine Bi rfl ?_|refine Bz rfl ?_|refine Lr ?_);conv=>whnf))
  refine Cnd_i (fun g3 => ?_) (fun g3 => ?_)
  · have e3 : In u.ste 0 (b.r.knd.getD u.kind.toNat Knd.d).ste = false := by simpa using g3
    ((conv=>whnf);repeat((first|refine Ct ‹_› ?_|refine Cf ‹_› ?_|refine Ct rfl ?_|refine Cf rfl ?_|refine Bi rfl ?_|refine Bz rfl ?_|refine Lr ?_);conv=>whnf))
    rw [okUnt, e1, e2, e3]
    exact ⟨rfl, rfl, rfl⟩
  have e3 : In u.ste 0 (b.r.knd.getD u.kind.toNat Knd.d).ste = true := by simpa using g3
  ((conv=>whnf);repeat((first|refine Ct ‹_› ?_|refine Cf ‹_› ?_|refine Ct rfl ?_|refine Cf rfl ?_|refine Bi rfl ?_|refine Bz rfl ?_|refine Lr ?_);conv=>whnf))
  refine Cnd_i (fun e4 => ?_) (fun e4 => ?_)
  · ((conv=>whnf);repeat((first|refine Ct ‹_› ?_|refine Cf ‹_› ?_|refine Ct rfl ?_|refine Cf rfl ?_|refine Bi rfl ?_|refine Bz rfl ?_|refine Lr ?_);conv=>whnf))
    rw [okUnt, e1, e2, e3, e4]
    exact ⟨rfl, rfl, rfl⟩
  ((conv=>whnf);repeat((first|refine Ct ‹_› ?_|refine Cf ‹_› ?_|refine Ct rfl ?_|refine Cf rfl ?_|refine Bi rfl ?_|refine Bz rfl ?_|refine Lr ?_);conv=>whnf))
  refine Cnd_i (fun e5 => ?_) (fun e5 => ?_)
  · ((conv=>whnf);repeat((first|refine Ct ‹_› ?_|refine Cf ‹_› ?_|refine Ct rfl ?_|refine Cf rfl ?_|refine Bi rfl ?_|refine Bz rfl ?_|refine Lr ?_);conv=>whnf))
    (refine CallQ_some (F_mSize b.m h.wh) ?_ ?_ ?_; rfl; rfl); ((conv=>whnf);repeat((first|refine Ct ‹_› ?_|refine Cf ‹_› ?_|refine Ct rfl ?_|refine Cf rfl ?_|refine Bi rfl ?_|refine Bz rfl ?_|refine Lr ?_);conv=>whnf))
    rw [wrapI (n := b.m.w * b.m.h - 1) (by omega)]
    (refine CallQ_some (F_l1In _ _ _) ?_ ?_ ?_; rfl; rfl); ((conv=>whnf);repeat((first|refine Ct ‹_› ?_|refine Cf ‹_› ?_|refine Ct rfl ?_|refine Cf rfl ?_|refine Bi rfl ?_|refine Bz rfl ?_|refine Lr ?_);conv=>whnf))
    refine Cnd_i (fun e6 => ?_) (fun e6 => ?_)
    · have d6 := of_decide_eq_true e6
      ((conv=>whnf);repeat((first|refine Ct ‹_› ?_|refine Cf ‹_› ?_|refine Ct rfl ?_|refine Cf rfl ?_|refine Bi rfl ?_|refine Bz rfl ?_|refine Lr ?_);conv=>whnf))
      (refine CallQ_some (F_bCost b h u.kind u.at' d6.1 (by omega) d2.1 (by omega)) ?_ ?_ ?_; rfl; rfl); ((conv=>whnf);repeat((first|refine Ct ‹_› ?_|refine Cf ‹_› ?_|refine Ct rfl ?_|refine Cf rfl ?_|refine Bi rfl ?_|refine Bz rfl ?_|refine Lr ?_);conv=>whnf))
      rw [okUnt, e1, e2, e3, e4, e5, e6]
      exact ⟨rfl, rfl, rfl⟩
    · ((conv=>whnf);repeat((first|refine Ct ‹_› ?_|refine Cf ‹_› ?_|refine Ct rfl ?_|refine Cf rfl ?_|refine Bi rfl ?_|refine Bz rfl ?_|refine Lr ?_);conv=>whnf))
      rw [okUnt, e1, e2, e3, e4, e5, e6]
      exact ⟨rfl, rfl, rfl⟩
  · ((conv=>whnf);repeat((first|refine Ct ‹_› ?_|refine Cf ‹_› ?_|refine Ct rfl ?_|refine Cf rfl ?_|refine Bi rfl ?_|refine Bz rfl ?_|refine Lr ?_);conv=>whnf))
    rw [okUnt, e1, e2, e3, e4, e5]
    exact ⟨rfl, rfl, rfl⟩

theorem ne0_pos {c : Int} (h : 0 ≤ c) : (c != 0) = decide (c > 0) := by
  by_cases e : c > 0
  · rw [decide_eq_true e]; exact bne_iff_ne.2 (by omega)
  · rw [decide_eq_false e, show c = 0 by omega]; rfl

theorem F_goodUnit (b : Brd) (h : GB b) (u : Unt) : Fun E0 102 [.agg b.cs, .agg u.cs] [] (.v (vB (okUnt b u))) [] [] := by
  have hk := h.k1
  have hm := h.wh.mul
  have hn := h.n
  refine Fun_of_xc k102 rfl rfl (fun k q h => by cases h) ?_
  ((conv=>whnf);repeat((first|refine Ct ‹_› ?_|refine Cf ‹_› ?_|refine Ct rfl ?_|refine Cf rfl ?_|refine Bi rfl ?_|refine Bz rfl ?_|refine Lr ?_);conv=>whnf))
  (refine CallQ_some (F_isSide _) ?_ ?_ ?_; rfl; rfl); ((conv=>whnf);repeat((first|refine Ct ‹_› ?_|refine Cf ‹_› ?_|refine Ct rfl ?_|refine Cf rfl ?_|refine Bi rfl ?_|refine Bz rfl ?_|refine Lr ?_);conv=>whnf))
  refine Cnd_i (fun g => ?_) (fun g => ?_)
  · have e1 : In u.side 0 1 = false := by simpa using g
    ((conv=>whnf);repeat((first|refine Ct ‹_› ?_|refine Cf ‹_› ?_|refine Ct rfl ?_|refine Cf rfl ?_|refine Bi rfl ?_|refine Bz rfl ?_|refine Lr ?_);conv=>whnf))
    rw [okUnt, e1]
    exact ⟨rfl, rfl, rfl⟩
  have e1 : In u.side 0 1 = true := by simpa using g
  ((conv=>whnf);repeat((first|refine Ct ‹_› ?_|refine Cf ‹_› ?_|refine Ct rfl ?_|refine Cf rfl ?_|refine Bi rfl ?_|refine Bz rfl ?_|refine Lr ?_);conv=>whnf))
  (refine CallQ_some (F_isIndex _ _ (by unfold i64; omega)) ?_ ?_ ?_; rfl; rfl); ((conv=>whnf);repeat((first|refine Ct ‹_› ?_|refine Cf ‹_› ?_|refine Ct rfl ?_|refine Cf rfl ?_|refine Bi rfl ?_|refine Bz rfl ?_|refine Lr ?_);conv=>whnf))
  refine Cnd_i (fun g2 => ?_) (fun g2 => ?_)
  · have e2 : In u.kind 0 (b.r.knd.length - 1) = false := by simpa using g2
    ((conv=>whnf);repeat((first|refine Ct ‹_› ?_|refine Cf ‹_› ?_|refine Ct rfl ?_|refine Cf rfl ?_|refine Bi rfl ?_|refine Bz rfl ?_|refine Lr ?_);conv=>whnf))
    rw [okUnt, e1, e2]
    exact ⟨rfl, rfl, rfl⟩
  have e2 : In u.kind 0 (b.r.knd.length - 1) = true := by simpa using g2
  have d2 := of_decide_eq_true e2
  ((conv=>whnf);repeat((first|refine Ct ‹_› ?_|refine Cf ‹_› ?_|refine Ct rfl ?_|refine Cf rfl ?_|refine Bi rfl ?_|refine Bz rfl ?_|refine Lr ?_);conv=>whnf))
  refine Bnd_i (⟨d2.1, by omega⟩) ?_; ((conv=>whnf);repeat((first|refine Ct ‹_› ?_|refine Cf ‹_› ?_|refine Ct rfl ?_|refine Cf rfl ?_|refine Bi rfl ?_|refine Bz rfl ?_|refine Lr ?_);conv=>whnf))
  (refine CallQ_some (F_inRange _ _ _) ?_ ?_ ?_; rfl; rfl); ((conv=>whnf);repeat((first|refine Ct ‹_› ?_|refine Cf ‹_› ?_|refine Ct rfl ?_|refine Cf rfl ?_|refine Bi rfl ?_|refine Bz rfl ?_|refine Lr ?_);conv=>whnf))
  refine Cnd_i (fun g3 => ?_) (fun g3 => ?_)
  · have e3 : In u.ste 0 (b.r.knd.getD u.kind.toNat Knd.d).ste = false := by simpa using g3
    ((conv=>whnf);repeat((first|refine Ct ‹_› ?_|refine Cf ‹_› ?_|refine Ct rfl ?_|refine Cf rfl ?_|refine Bi rfl ?_|refine Bz rfl ?_|refine Lr ?_);conv=>whnf))
    rw [okUnt, e1, e2, e3]
    exact ⟨rfl, rfl, rfl⟩
  have e3 : In u.ste 0 (b.r.knd.getD u.kind.toNat Knd.d).ste = true := by simpa using g3
  ((conv=>whnf);repeat((first|refine Ct ‹_› ?_|refine Cf ‹_› ?_|refine Ct rfl ?_|refine Cf rfl ?_|refine Bi rfl ?_|refine Bz rfl ?_|refine Lr ?_);conv=>whnf))
  refine Cnd_i (fun e4 => ?_) (fun e4 => ?_)
  · ((conv=>whnf);repeat((first|refine Ct ‹_› ?_|refine Cf ‹_› ?_|refine Ct rfl ?_|refine Cf rfl ?_|refine Bi rfl ?_|refine Bz rfl ?_|refine Lr ?_);conv=>whnf))
    rw [okUnt, e1, e2, e3, e4]
    exact ⟨rfl, rfl, rfl⟩
  ((conv=>whnf);repeat((first|refine Ct ‹_› ?_|refine Cf ‹_› ?_|refine Ct rfl ?_|refine Cf rfl ?_|refine Bi rfl ?_|refine Bz rfl ?_|refine Lr ?_);conv=>whnf))
  refine Cnd_i (fun e5 => ?_) (fun e5 => ?_)
  · ((conv=>whnf);repeat((first|refine Ct ‹_› ?_|refine Cf ‹_› ?_|refine Ct rfl ?_|refine Cf rfl ?_|refine Bi rfl ?_|refine Bz rfl ?_|refine Lr ?_);conv=>whnf))
    (refine CallQ_some (F_sizeOf b) ?_ ?_ ?_; rfl; rfl); ((conv=>whnf);repeat((first|refine Ct ‹_› ?_|refine Cf ‹_› ?_|refine Ct rfl ?_|refine Cf rfl ?_|refine Bi rfl ?_|refine Bz rfl ?_|refine Lr ?_);conv=>whnf))
    (refine CallQ_some (F_isIndex _ _ (by unfold i64; omega)) ?_ ?_ ?_; rfl; rfl); ((conv=>whnf);repeat((first|refine Ct ‹_› ?_|refine Cf ‹_› ?_|refine Ct rfl ?_|refine Cf rfl ?_|refine Bi rfl ?_|refine Bz rfl ?_|refine Lr ?_);conv=>whnf))
    rw [hn]
    refine Cnd_i (fun e6 => ?_) (fun e6 => ?_)
    · have d6 := of_decide_eq_true e6
      ((conv=>whnf);repeat((first|refine Ct ‹_› ?_|refine Cf ‹_› ?_|refine Ct rfl ?_|refine Cf rfl ?_|refine Bi rfl ?_|refine Bz rfl ?_|refine Lr ?_);conv=>whnf))
      (refine CallQ_some (F_enterCost b h u.kind u.at' d6.1 (by omega) d2.1 (by omega)) ?_ ?_ ?_; rfl; rfl); ((conv=>whnf);repeat((first|refine Ct ‹_› ?_|refine Cf ‹_› ?_|refine Ct rfl ?_|refine Cf rfl ?_|refine Bi rfl ?_|refine Bz rfl ?_|refine Lr ?_);conv=>whnf))
      rw [okUnt, e1, e2, e3, e4, e5, e6, ne0_pos (h.cost d6.1 (by omega) d2.1 (by omega)).1]
      exact ⟨rfl, rfl, rfl⟩
    · ((conv=>whnf);repeat((first|refine Ct ‹_› ?_|refine Cf ‹_› ?_|refine Ct rfl ?_|refine Cf rfl ?_|refine Bi rfl ?_|refine Bz rfl ?_|refine Lr ?_);conv=>whnf))
      rw [okUnt, e1, e2, e3, e4, e5, e6]
      exact ⟨rfl, rfl, rfl⟩
  · ((conv=>whnf);repeat((first|refine Ct ‹_› ?_|refine Cf ‹_› ?_|refine Ct rfl ?_|refine Cf rfl ?_|refine Bi rfl ?_|refine Bz rfl ?_|refine Lr ?_);conv=>whnf))
    rw [okUnt, e1, e2, e3, e4, e5]
    exact ⟨rfl, rfl, rfl⟩

/-- the places of the first n units that are so -/
def selU (q : Unt → Bool) (us : List Unt) : Nat → List Int
  | 0 => []
  | n + 1 => if q (us.getD n Unt.d) = true then selU q us n ++ [(n : Int)] else selU q us n

theorem selU_le (q : Unt → Bool) (us : List Unt) (n : Nat) : (selU q us n).length ≤ n := by
  induction n with
  | zero => simp [selU]
  | succ n ih =>
    unfold selU
    split
    · rw [List.length_append]; simp; omega
    · omega

def atQ (i side : Int) (u : Unt) : Bool := u.at' == i && u.side == side
end Go.Proofs.YthleikolhjdffaaGreatDoor.Ab
