/- Contracts of the functions that FnExactUnitsOf reaches, by the abstract machine (part 2).
   Conditions: none. -/
import Derived.Test.YthaeflammjofeaaDoorCUnitsOf1
set_option linter.unusedVariables false
set_option linter.unusedSimpArgs false
namespace Go.Proofs.YthaeflammjofeaaDoor.Ab
open Go Go.RowKit
attribute [local irreducible] Cnd Bnd Rw CallQ CallR Bts Isn Lc WLoop
set_option maxRecDepth 100000
theorem F_goodState (b : Brd) (h : GB b) (s : Stt) (hs : s.Ok) : Fun E0 91 [.agg b.cs, .agg s.cs] [] (.v (vB (okSt b s))) [] [] := by
  have hst : 0 ≤ b.r.stack := by
    have := h.nums
    simp only [numsOk, Bool.and_eq_true] at this
    have := of_decide_eq_true this.1.1.1.1
    omega
  have hN := h.n
  have hNl : b.m.ter.length ≤ 1048576 := by have := h.wh.mul; omega
  refine Fun_of_xc k91 rfl rfl (fun k q h => by cases h) ?_
  ((conv=>whnf);repeat((first|refine Ct ‹_› ?_|refine Cf ‹_› ?_|refine Ct rfl ?_|refine Cf rfl ?_|refine Bi rfl ?_|refine Bz rfl ?_|refine Lr ?_);conv=>whnf))
  (refine CallQ_some (F_inRange _ _ _) ?_ ?_ ?_; rfl; rfl); ((conv=>whnf);repeat((first|refine Ct ‹_› ?_|refine Cf ‹_› ?_|refine Ct rfl ?_|refine Cf rfl ?_|refine Bi rfl ?_|refine Bz rfl ?_|refine Lr ?_);conv=>whnf))
  refine Cnd_i (fun g => ?_) (fun g => ?_)
  · have e1 : In s.turn 0 b.r.turns = false := by simpa using g
    ((conv=>whnf);repeat((first|refine Ct ‹_› ?_|refine Cf ‹_› ?_|refine Ct rfl ?_|refine Cf rfl ?_|refine Bi rfl ?_|refine Bz rfl ?_|refine Lr ?_);conv=>whnf))
    rw [okSt, e1]
    exact ⟨rfl, rfl, rfl⟩
  have e1 : In s.turn 0 b.r.turns = true := by simpa using g
  ((conv=>whnf);repeat((first|refine Ct ‹_› ?_|refine Cf ‹_› ?_|refine Ct rfl ?_|refine Cf rfl ?_|refine Bi rfl ?_|refine Bz rfl ?_|refine Lr ?_);conv=>whnf))
  (refine CallQ_some (F_inRange _ _ _) ?_ ?_ ?_; rfl; rfl); ((conv=>whnf);repeat((first|refine Ct ‹_› ?_|refine Cf ‹_› ?_|refine Ct rfl ?_|refine Cf rfl ?_|refine Bi rfl ?_|refine Bz rfl ?_|refine Lr ?_);conv=>whnf))
  refine Cnd_i (fun g => ?_) (fun g => ?_)
  · have e2 : In s.wea 0 2 = false := by simpa using g
    ((conv=>whnf);repeat((first|refine Ct ‹_› ?_|refine Cf ‹_› ?_|refine Ct rfl ?_|refine Cf rfl ?_|refine Bi rfl ?_|refine Bz rfl ?_|refine Lr ?_);conv=>whnf))
    rw [okSt, e1, e2]
    exact ⟨rfl, rfl, rfl⟩
  have e2 : In s.wea 0 2 = true := by simpa using g
  ((conv=>whnf);repeat((first|refine Ct ‹_› ?_|refine Cf ‹_› ?_|refine Ct rfl ?_|refine Cf rfl ?_|refine Bi rfl ?_|refine Bz rfl ?_|refine Lr ?_);conv=>whnf))
  refine Cnd_i (fun g => ?_) (fun g => ?_)
  · have e3 : decide (s.un.length ≤ 12) = false := by
      have := of_decide_eq_true g
      exact decide_eq_false (by omega)
    ((conv=>whnf);repeat((first|refine Ct ‹_› ?_|refine Cf ‹_› ?_|refine Ct rfl ?_|refine Cf rfl ?_|refine Bi rfl ?_|refine Bz rfl ?_|refine Lr ?_);conv=>whnf))
    rw [okSt, e1, e2, e3]
    exact ⟨rfl, rfl, rfl⟩
  have hl : s.un.length ≤ 12 := by
    have := of_decide_eq_false g
    omega
  have e3 : decide (s.un.length ≤ 12) = true := decide_eq_true hl
  ((conv=>whnf);repeat((first|refine Ct ‹_› ?_|refine Cf ‹_› ?_|refine Ct rfl ?_|refine Cf rfl ?_|refine Bi rfl ?_|refine Bz rfl ?_|refine Lr ?_);conv=>whnf))
  (refine CallQ_some (F_sizeOf b) ?_ ?_ ?_; rfl; rfl); ((conv=>whnf);repeat((first|refine Ct ‹_› ?_|refine Cf ‹_› ?_|refine Ct rfl ?_|refine Cf rfl ?_|refine Bi rfl ?_|refine Bz rfl ?_|refine Lr ?_);conv=>whnf))
  refine Bnd_i ?_ ?_
  · omega
  ((conv=>whnf);repeat((first|refine Ct ‹_› ?_|refine Cf ‹_› ?_|refine Ct rfl ?_|refine Cf rfl ?_|refine Bi rfl ?_|refine Bz rfl ?_|refine Lr ?_);conv=>whnf))
  refine Rw_i (rwC s.un b.m.ter.length 0) ⟨rfl, rfl, by simp [zeroRow], fun i j hi hj => ?_⟩ ?_
  · have hj : j < 2 := hj
    match j, hj with
    | 0, _ => rfl
    | 1, _ => rfl
  ((conv=>whnf);repeat((first|refine Ct ‹_› ?_|refine Cf ‹_› ?_|refine Ct rfl ?_|refine Cf rfl ?_|refine Bi rfl ?_|refine Bz rfl ?_|refine Lr ?_);conv=>whnf))
  refine WLoop_v ⟨[2, 5, 31, 32, 33], [2], []⟩ (fun t : Int => hdS 80 [(2, .v (.one (.box 2 0))), (5, .v (.one (.own (vkey 5) b.m.ter.length))), (31, .v (.one (roU s.un))), (32, .v (vI s.un.length)), (33, .v (vI t))] [(2, b.cs)] [(vkey 5, rwC s.un b.m.ter.length t.toNat)])
    (fun n t => 0 ≤ t ∧ t + n = s.un.length ∧ (∀ k : Nat, (k : Int) < t → okUnt b (s.un.getD k Unt.d) = true) ∧ pre b.r.stack s.un t.toNat) s.un.length 0 rfl ⟨by omega, by omega, fun k hk => by omega, fun k hk => by omega⟩ ?_
  rintro n t ⟨h1, h2, h3, h4⟩
  ((conv=>whnf);repeat((first|refine Ct ‹_› ?_|refine Cf ‹_› ?_|refine Ct rfl ?_|refine Cf rfl ?_|refine Bi rfl ?_|refine Bz rfl ?_|refine Lr ?_);conv=>whnf))
  refine Cnd_i (fun g => ?_) (fun g => ?_)
  · have ht := of_decide_eq_true g
    ((conv=>whnf);repeat((first|refine Ct ‹_› ?_|refine Cf ‹_› ?_|refine Ct rfl ?_|refine Cf rfl ?_|refine Bi rfl ?_|refine Bz rfl ?_|refine Lr ?_);conv=>whnf))
    refine Bnd_i (⟨h1, ht⟩) ?_; ((conv=>whnf);repeat((first|refine Ct ‹_› ?_|refine Cf ‹_› ?_|refine Ct rfl ?_|refine Cf rfl ?_|refine Bi rfl ?_|refine Bz rfl ?_|refine Lr ?_);conv=>whnf))
    (refine CallQ_some (F_goodUnit b h (s.un.getD t.toNat Unt.d)) ?_ ?_ ?_; rfl; rfl); ((conv=>whnf);repeat((first|refine Ct ‹_› ?_|refine Cf ‹_› ?_|refine Ct rfl ?_|refine Cf rfl ?_|refine Bi rfl ?_|refine Bz rfl ?_|refine Lr ?_);conv=>whnf))
    refine Cnd_i (fun g => ?_) (fun g => ?_)
    · have e4 : okUnt b (s.un.getD t.toNat Unt.d) = false := by simpa using g
      ((conv=>whnf);repeat((first|refine Ct ‹_› ?_|refine Cf ‹_› ?_|refine Ct rfl ?_|refine Cf rfl ?_|refine Bi rfl ?_|refine Bz rfl ?_|refine Lr ?_);conv=>whnf))
      rw [okSt, e1, e2, e3, all_drop_ne h1 ht e4]
      exact ⟨rfl, rfl, rfl⟩
    have e4 : okUnt b (s.un.getD t.toNat Unt.d) = true := by simpa using g
    have hU := UnOk.of h e4
    have h3' : ∀ k : Nat, (k : Int) < t + 1 → okUnt b (s.un.getD k Unt.d) = true := fun k hk => by
      by_cases e : (k : Int) < t
      · exact h3 k e
      · rw [show k = t.toNat by omega]; exact e4
    have hs1 := cnt_succ s.un t.toNat
    have hb1 := fun i s' => (cnt_b s.un t.toNat i s')
    ((conv=>whnf);repeat((first|refine Ct ‹_› ?_|refine Cf ‹_› ?_|refine Ct rfl ?_|refine Cf rfl ?_|refine Bi rfl ?_|refine Bz rfl ?_|refine Lr ?_);conv=>whnf))
    refine Cnd_i (fun g5 => ?_) (fun g5 => ?_)
    · have d5 := of_decide_eq_true g5
      ((conv=>whnf);repeat((first|refine Ct ‹_› ?_|refine Cf ‹_› ?_|refine Ct rfl ?_|refine Cf rfl ?_|refine Bi rfl ?_|refine Bz rfl ?_|refine Lr ?_);conv=>whnf))
      have hx : ∀ i : Nat, ∀ s', cnt s.un (t.toNat + 1) i s' = cnt s.un t.toNat i s' := fun i s' => by
        rw [hs1, if_neg (by rw [atQ, show ((s.un.getD t.toNat Unt.d).at' == (i : Int)) = false from beq_eq_false_iff_ne.2 (by omega)]; simp)]
        omega
      refine ⟨n - 1, t + 1, ?_, by omega, by omega, by omega, h3', ?_⟩
      · rw [wrapI (by omega), show (t + 1).toNat = t.toNat + 1 by omega]
        unfold rwC
        simp only [hx]
        rfl
      · rw [show (t + 1).toNat = t.toNat + 1 by omega]
        intro k hk ha
        by_cases e : k < t.toNat
        · exact h4 k e ha
        · rw [show k = t.toNat by omega] at ha
          omega
    · have d5 := of_decide_eq_false g5
      have hat : 0 ≤ (s.un.getD t.toNat Unt.d).at' ∧ (s.un.getD t.toNat Unt.d).at' < b.m.ter.length := by have := hU.at'; omega
      ((conv=>whnf);repeat((first|refine Ct ‹_› ?_|refine Cf ‹_› ?_|refine Ct rfl ?_|refine Cf rfl ?_|refine Bi rfl ?_|refine Bz rfl ?_|refine Lr ?_);conv=>whnf))
      refine Bnd_i (hat) ?_; ((conv=>whnf);repeat((first|refine Ct ‹_› ?_|refine Cf ‹_› ?_|refine Ct rfl ?_|refine Cf rfl ?_|refine Bi rfl ?_|refine Bz rfl ?_|refine Lr ?_);conv=>whnf))
      refine Bnd_i (⟨by have := hU.side; omega, by have := hU.side; show _ < (2 : Int); omega⟩) ?_; ((conv=>whnf);repeat((first|refine Ct ‹_› ?_|refine Cf ‹_› ?_|refine Ct rfl ?_|refine Cf rfl ?_|refine Bi rfl ?_|refine Bz rfl ?_|refine Lr ?_);conv=>whnf))
      have hsd := hU.side
      have hsi : 0 ≤ (s.un.getD t.toNat Unt.d).side ∧ (s.un.getD t.toNat Unt.d).side < ((2 : Nat) : Int) := by omega
      have hso : 0 + (s.un.getD t.toNat Unt.d).side.toNat * 1 + 1 ≤ 2 := by omega
      have hso2 : 0 + (1 - (s.un.getD t.toNat Unt.d).side).toNat * 1 + 1 ≤ 2 := by omega
      refine Bnd_i (Nat.ble_eq_true_of_le hso) ?_; ((conv=>whnf);repeat((first|refine Ct ‹_› ?_|refine Cf ‹_› ?_|refine Ct rfl ?_|refine Cf rfl ?_|refine Bi rfl ?_|refine Bz rfl ?_|refine Lr ?_);conv=>whnf))
      refine Bnd_i (hat) ?_; ((conv=>whnf);repeat((first|refine Ct ‹_› ?_|refine Cf ‹_› ?_|refine Ct rfl ?_|refine Cf rfl ?_|refine Bi rfl ?_|refine Bz rfl ?_|refine Lr ?_);conv=>whnf))
      refine Bnd_i (hsi) ?_; ((conv=>whnf);repeat((first|refine Ct ‹_› ?_|refine Cf ‹_› ?_|refine Ct rfl ?_|refine Cf rfl ?_|refine Bi rfl ?_|refine Bz rfl ?_|refine Lr ?_);conv=>whnf))
      refine Bnd_i (Nat.ble_eq_true_of_le hso) ?_; ((conv=>whnf);repeat((first|refine Ct ‹_› ?_|refine Cf ‹_› ?_|refine Ct rfl ?_|refine Cf rfl ?_|refine Bi rfl ?_|refine Bz rfl ?_|refine Lr ?_);conv=>whnf))
      refine Rw_i (rwC s.un b.m.ter.length (t.toNat + 1)) ⟨rfl, rfl, rfl, fun i j hi hj => ?_⟩ ?_
      · have hj : j < 2 := hj
        show wrG (rwC s.un b.m.ter.length t.toNat).get (s.un.getD t.toNat Unt.d).at'.toNat (0 + (s.un.getD t.toNat Unt.d).side.toNat * 1) [cI (IntKind.i64.wrap (cnt s.un t.toNat ((s.un.getD t.toNat Unt.d).at'.toNat : Nat) ((0 + (s.un.getD t.toNat Unt.d).side.toNat * 1 : Nat)) + 1))] i j = cI (cnt s.un (t.toNat + 1) i j)
        by_cases e : i = (s.un.getD t.toNat Unt.d).at'.toNat ∧ j = (s.un.getD t.toNat Unt.d).side.toNat
        · obtain ⟨rfl, rfl⟩ := e
          rw [wrG_in (by simp), show 0 + (s.un.getD t.toNat Unt.d).side.toNat * 1 = (s.un.getD t.toNat Unt.d).side.toNat by omega, hs1, if_pos (atQ_iff.2 ⟨by omega, by omega⟩), wrapI (by have := hb1 ((s.un.getD t.toNat Unt.d).at'.toNat : Nat) ((s.un.getD t.toNat Unt.d).side.toNat : Nat); omega)]
          simp [nth]
        · rw [wrG_out (by rintro ⟨e1, e2, e3⟩; have e3' : j < 0 + (s.un.getD t.toNat Unt.d).side.toNat * 1 + 1 := e3; exact e ⟨e1, by omega⟩)]
          show cI _ = cI _
          rw [hs1, if_neg (fun hh => e (by have := atQ_iff.1 hh; omega)), Int.add_zero]
      ((conv=>whnf);repeat((first|refine Ct ‹_› ?_|refine Cf ‹_› ?_|refine Ct rfl ?_|refine Cf rfl ?_|refine Bi rfl ?_|refine Bz rfl ?_|refine Lr ?_);conv=>whnf))
      refine Bnd_i (hat) ?_; ((conv=>whnf);repeat((first|refine Ct ‹_› ?_|refine Cf ‹_› ?_|refine Ct rfl ?_|refine Cf rfl ?_|refine Bi rfl ?_|refine Bz rfl ?_|refine Lr ?_);conv=>whnf))
      rw [wrapI (n := 1 - (s.un.getD t.toNat Unt.d).side) (by omega)]
      refine Bnd_i (⟨by omega, by omega⟩) ?_; ((conv=>whnf);repeat((first|refine Ct ‹_› ?_|refine Cf ‹_› ?_|refine Ct rfl ?_|refine Cf rfl ?_|refine Bi rfl ?_|refine Bz rfl ?_|refine Lr ?_);conv=>whnf))
      refine Bnd_i (Nat.ble_eq_true_of_le hso2) ?_; ((conv=>whnf);repeat((first|refine Ct ‹_› ?_|refine Cf ‹_› ?_|refine Ct rfl ?_|refine Cf rfl ?_|refine Bi rfl ?_|refine Bz rfl ?_|refine Lr ?_);conv=>whnf))
      have ea : (((s.un.getD t.toNat Unt.d).at'.toNat : Nat) : Int) = (s.un.getD t.toNat Unt.d).at' := by omega
      have eb : ((0 + (1 - (s.un.getD t.toNat Unt.d).side).toNat * 1 : Nat) : Int) = 1 - (s.un.getD t.toNat Unt.d).side := by omega
      have ec : ((0 + (s.un.getD t.toNat Unt.d).side.toNat * 1 : Nat) : Int) = (s.un.getD t.toNat Unt.d).side := by omega
      have bad : ¬ (cnt s.un (t.toNat + 1) (s.un.getD t.toNat Unt.d).at' (1 - (s.un.getD t.toNat Unt.d).side) = 0 ∧ cnt s.un (t.toNat + 1) (s.un.getD t.toNat Unt.d).at' (s.un.getD t.toNat Unt.d).side ≤ b.r.stack) → decide (stk b.r.stack s.un) = false := fun hh => by
        refine decide_eq_false fun hk => hh ?_
        have a1 := hk t.toNat (by omega) hat.1
        have a2 := cnt_mono s.un (show t.toNat + 1 ≤ s.un.length by omega) (s.un.getD t.toNat Unt.d).at' (1 - (s.un.getD t.toNat Unt.d).side)
        have a3 := cnt_mono s.un (show t.toNat + 1 ≤ s.un.length by omega) (s.un.getD t.toNat Unt.d).at' (s.un.getD t.toNat Unt.d).side
        have a4 := (cnt_b s.un (t.toNat + 1) (s.un.getD t.toNat Unt.d).at' (1 - (s.un.getD t.toNat Unt.d).side)).1
        omega
      have a4 := (cnt_b s.un (t.toNat + 1) (s.un.getD t.toNat Unt.d).at' (1 - (s.un.getD t.toNat Unt.d).side)).1
      refine Cnd_i (fun g6 => ?_) (fun g6 => ?_)
      · have d6 : cnt s.un (t.toNat + 1) ((s.un.getD t.toNat Unt.d).at'.toNat : Nat) ((0 + (1 - (s.un.getD t.toNat Unt.d).side).toNat * 1 : Nat)) > 0 := of_decide_eq_true g6
        rw [ea, eb] at d6
        ((conv=>whnf);repeat((first|refine Ct ‹_› ?_|refine Cf ‹_› ?_|refine Ct rfl ?_|refine Cf rfl ?_|refine Bi rfl ?_|refine Bz rfl ?_|refine Lr ?_);conv=>whnf))
        rw [okSt, e1, e2, e3, bad (by omega)]
        rw [Bool.and_false]
        exact ⟨rfl, rfl, rfl⟩
      · have d6 : ¬ cnt s.un (t.toNat + 1) ((s.un.getD t.toNat Unt.d).at'.toNat : Nat) ((0 + (1 - (s.un.getD t.toNat Unt.d).side).toNat * 1 : Nat)) > 0 := of_decide_eq_false g6
        rw [ea, eb] at d6
        ((conv=>whnf);repeat((first|refine Ct ‹_› ?_|refine Cf ‹_› ?_|refine Ct rfl ?_|refine Cf rfl ?_|refine Bi rfl ?_|refine Bz rfl ?_|refine Lr ?_);conv=>whnf))
        refine Bnd_i (hat) ?_; ((conv=>whnf);repeat((first|refine Ct ‹_› ?_|refine Cf ‹_› ?_|refine Ct rfl ?_|refine Cf rfl ?_|refine Bi rfl ?_|refine Bz rfl ?_|refine Lr ?_);conv=>whnf))
        refine Bnd_i (hsi) ?_; ((conv=>whnf);repeat((first|refine Ct ‹_› ?_|refine Cf ‹_› ?_|refine Ct rfl ?_|refine Cf rfl ?_|refine Bi rfl ?_|refine Bz rfl ?_|refine Lr ?_);conv=>whnf))
        refine Bnd_i (Nat.ble_eq_true_of_le hso) ?_; ((conv=>whnf);repeat((first|refine Ct ‹_› ?_|refine Cf ‹_› ?_|refine Ct rfl ?_|refine Cf rfl ?_|refine Bi rfl ?_|refine Bz rfl ?_|refine Lr ?_);conv=>whnf))
        refine Cnd_i (fun g7 => ?_) (fun g7 => ?_)
        · have d7 : cnt s.un (t.toNat + 1) ((s.un.getD t.toNat Unt.d).at'.toNat : Nat) ((0 + (s.un.getD t.toNat Unt.d).side.toNat * 1 : Nat)) > b.r.stack := of_decide_eq_true g7
          rw [ea, ec] at d7
          ((conv=>whnf);repeat((first|refine Ct ‹_› ?_|refine Cf ‹_› ?_|refine Ct rfl ?_|refine Cf rfl ?_|refine Bi rfl ?_|refine Bz rfl ?_|refine Lr ?_);conv=>whnf))
          rw [okSt, e1, e2, e3, bad (by omega)]
          rw [Bool.and_false]
          exact ⟨rfl, rfl, rfl⟩
        · have d7 : ¬ cnt s.un (t.toNat + 1) ((s.un.getD t.toNat Unt.d).at'.toNat : Nat) ((0 + (s.un.getD t.toNat Unt.d).side.toNat * 1 : Nat)) > b.r.stack := of_decide_eq_false g7
          rw [ea, ec] at d7
          ((conv=>whnf);repeat((first|refine Ct ‹_› ?_|refine Cf ‹_› ?_|refine Ct rfl ?_|refine Cf rfl ?_|refine Bi rfl ?_|refine Bz rfl ?_|refine Lr ?_);conv=>whnf))
          refine ⟨n - 1, t + 1, ?_, by omega, by omega, by omega, h3', ?_⟩
          · rw [wrapI (by omega), show (t + 1).toNat = t.toNat + 1 by omega]
            rfl
          · rw [show (t + 1).toNat = t.toNat + 1 by omega]
            intro k hk ha
            by_cases e : k < t.toNat
            · exact h4 k e ha
            · rw [show k = t.toNat by omega]
              exact ⟨by omega, by omega⟩
  · have ht := of_decide_eq_false g
    ((conv=>whnf);repeat((first|refine Ct ‹_› ?_|refine Cf ‹_› ?_|refine Ct rfl ?_|refine Cf rfl ?_|refine Bi rfl ?_|refine Bz rfl ?_|refine Lr ?_);conv=>whnf))
    have e4 : s.un.all (okUnt b) = true := all_of_lt Unt.d fun k hk => h3 k (by omega)
    have e5 : stk b.r.stack s.un := (stk_pre hst fun k hk => (UnOk.of h (h3 k (by omega))).side).2 (by rw [show s.un.length = t.toNat by omega]; exact h4)
    rw [okSt, e1, e2, e3, e4, decide_eq_true e5]
    exact ⟨rfl, rfl, rfl⟩

theorem F_fits (b : Brd) (ho : b.Ok) (s : Stt) (hs : s.Ok) : Fun E0 53 [.agg b.cs, .agg s.cs] [] (.v (vB (okBrd b && okSt b s))) [] [] := by
  refine Fun_of_xc k53 rfl rfl (fun k q h => by cases h) ?_
  ((conv=>whnf);repeat((first|refine Ct ‹_› ?_|refine Cf ‹_› ?_|refine Ct rfl ?_|refine Cf rfl ?_|refine Bi rfl ?_|refine Bz rfl ?_|refine Lr ?_);conv=>whnf))
  (refine CallQ_some (F_IsBoard b ho) ?_ ?_ ?_; rfl; rfl); ((conv=>whnf);repeat((first|refine Ct ‹_› ?_|refine Cf ‹_› ?_|refine Ct rfl ?_|refine Cf rfl ?_|refine Bi rfl ?_|refine Bz rfl ?_|refine Lr ?_);conv=>whnf))
  refine Cnd_i (fun g => ?_) (fun g => ?_)
  · ((conv=>whnf);repeat((first|refine Ct ‹_› ?_|refine Cf ‹_› ?_|refine Ct rfl ?_|refine Cf rfl ?_|refine Bi rfl ?_|refine Bz rfl ?_|refine Lr ?_);conv=>whnf))
    (refine CallQ_some (F_goodState b (GB.of ho g) s hs) ?_ ?_ ?_; rfl; rfl); ((conv=>whnf);repeat((first|refine Ct ‹_› ?_|refine Cf ‹_› ?_|refine Ct rfl ?_|refine Cf rfl ?_|refine Bi rfl ?_|refine Bz rfl ?_|refine Lr ?_);conv=>whnf))
    rw [g]
    exact ⟨rfl, rfl, rfl⟩
  · ((conv=>whnf);repeat((first|refine Ct ‹_› ?_|refine Cf ‹_› ?_|refine Ct rfl ?_|refine Cf rfl ?_|refine Bi rfl ?_|refine Bz rfl ?_|refine Lr ?_);conv=>whnf))
    rw [g]
    exact ⟨rfl, rfl, rfl⟩

structure StOk (b : Brd) (s : Stt) : Prop where
  gb : GB b
  turn : 0 ≤ s.turn ∧ s.turn ≤ b.r.turns
  wea : 0 ≤ s.wea ∧ s.wea ≤ 2
  len : s.un.length ≤ 12
  un : ∀ u ∈ s.un, UnOk b u
  stk : stk b.r.stack s.un

theorem StOk.of {b : Brd} {s : Stt} (ho : b.Ok) (h : (okBrd b && okSt b s) = true) : StOk b s := by
  simp only [okSt, Bool.and_eq_true] at h
  obtain ⟨h0, ⟨⟨⟨h1, h2⟩, h3⟩, h4⟩, h5⟩ := h
  have g := GB.of ho h0
  exact ⟨g, of_decide_eq_true h1, of_decide_eq_true h2, of_decide_eq_true h3, fun u hu => UnOk.of g (List.all_eq_true.1 h4 u hu), of_decide_eq_true h5⟩

theorem StOk.side {b : Brd} {s : Stt} (h : StOk b s) {k : Nat} (hk : k < s.un.length) : (s.un.getD k Unt.d).side = 0 ∨ (s.un.getD k Unt.d).side = 1 := by
  refine (h.un _ ?_).side
  have := getD_memT (l := s.un) (d := Unt.d) (i := (k : Int)) (by omega) (by omega)
  rwa [Int.toNat_natCast] at this

def onS (side : Int) (u : Unt) : Bool := u.side == side && decide (u.at' ≥ 0)

theorem F_sOf (s : Stt) (hs : s.un.length ≤ 1048576) (side : Int) :
    Fun E0 51 [.agg s.cs, vI side] [] (.v (.one (.own 0 (selU (onS side) s.un s.un.length).length))) [(0, rwI (selU (onS side) s.un s.un.length))] [] := by
  refine Fun_of_xc k51 rfl rfl (nrC (rwI_no _) nrN) ?_
  ((conv=>whnf);repeat((first|refine Ct ‹_› ?_|refine Cf ‹_› ?_|refine Ct rfl ?_|refine Cf rfl ?_|refine Bi rfl ?_|refine Bz rfl ?_|refine Lr ?_);conv=>whnf))
  refine Rw_i (rwI []) (rwI_nil _) ?_
  ((conv=>whnf);repeat((first|refine Ct ‹_› ?_|refine Cf ‹_› ?_|refine Ct rfl ?_|refine Cf rfl ?_|refine Bi rfl ?_|refine Bz rfl ?_|refine Lr ?_);conv=>whnf))
  refine Rw_i (rwI []) (rwI_nil _) ?_
  ((conv=>whnf);repeat((first|refine Ct ‹_› ?_|refine Cf ‹_› ?_|refine Ct rfl ?_|refine Cf rfl ?_|refine Bi rfl ?_|refine Bz rfl ?_|refine Lr ?_);conv=>whnf))
  refine WLoop_v2 ⟨[1, 5, 9, 10, 11], [], []⟩ (fun (t : Int) (out : List Int) => hdS 31 [(1, .v (vI side)), (5, .v (.one (.own (vkey 5) out.length))), (9, .v (.one (roU s.un))), (10, .v (vI s.un.length)), (11, .v (vI t))] [] [(vkey 5, rwI out)])
    (fun n t out => 0 ≤ t ∧ t + n = s.un.length ∧ out = selU (onS side) s.un t.toNat) s.un.length 0 [] rfl ⟨by omega, by omega, rfl⟩ ?_
  rintro n t out ⟨h1, h2, h3⟩
  have hle := selU_le (onS side) s.un t.toNat
  rw [← h3] at hle
  have hnx : selU (onS side) s.un (t + 1).toNat = if onS side (s.un.getD t.toNat Unt.d) = true then out ++ [t] else out := by
    rw [show (t + 1).toNat = t.toNat + 1 by omega, selU, ← h3, show ((t.toNat : Nat) : Int) = t by omega]
  ((conv=>whnf);repeat((first|refine Ct ‹_› ?_|refine Cf ‹_› ?_|refine Ct rfl ?_|refine Cf rfl ?_|refine Bi rfl ?_|refine Bz rfl ?_|refine Lr ?_);conv=>whnf))
  refine Cnd_i (fun g => ?_) (fun g => ?_)
  · have ht := of_decide_eq_true g
    ((conv=>whnf);repeat((first|refine Ct ‹_› ?_|refine Cf ‹_› ?_|refine Ct rfl ?_|refine Cf rfl ?_|refine Bi rfl ?_|refine Bz rfl ?_|refine Lr ?_);conv=>whnf))
    refine Bnd_i (⟨h1, ht⟩) ?_; ((conv=>whnf);repeat((first|refine Ct ‹_› ?_|refine Cf ‹_› ?_|refine Ct rfl ?_|refine Cf rfl ?_|refine Bi rfl ?_|refine Bz rfl ?_|refine Lr ?_);conv=>whnf))
    refine Cnd_i (fun g2 => ?_) (fun g2 => ?_)
    · ((conv=>whnf);repeat((first|refine Ct ‹_› ?_|refine Cf ‹_› ?_|refine Ct rfl ?_|refine Cf rfl ?_|refine Bi rfl ?_|refine Bz rfl ?_|refine Lr ?_);conv=>whnf))
      refine Cnd_i (fun g3 => ?_) (fun g3 => ?_)
      · ((conv=>whnf);repeat((first|refine Ct ‹_› ?_|refine Cf ‹_› ?_|refine Ct rfl ?_|refine Cf rfl ?_|refine Bi rfl ?_|refine Bz rfl ?_|refine Lr ?_);conv=>whnf))
        refine Rw_self ?_
        ((conv=>whnf);repeat((first|refine Ct ‹_› ?_|refine Cf ‹_› ?_|refine Ct rfl ?_|refine Cf rfl ?_|refine Bi rfl ?_|refine Bz rfl ?_|refine Lr ?_);conv=>whnf))
        refine Bnd_i ?_ ?_
        · show out.length + 1 < _
          omega
        ((conv=>whnf);repeat((first|refine Ct ‹_› ?_|refine Cf ‹_› ?_|refine Ct rfl ?_|refine Cf rfl ?_|refine Bi rfl ?_|refine Bz rfl ?_|refine Lr ?_);conv=>whnf))
        refine Rw_i (rwI (out ++ [t])) (rwI_app _ _ _ rfl) ?_
        ((conv=>whnf);repeat((first|refine Ct ‹_› ?_|refine Cf ‹_› ?_|refine Ct rfl ?_|refine Cf rfl ?_|refine Bi rfl ?_|refine Bz rfl ?_|refine Lr ?_);conv=>whnf))
        rw [if_pos (by rw [onS, g2, g3]; rfl)] at hnx
        refine ⟨n - 1, t + 1, out ++ [t], ?_, by omega, by omega, by omega, hnx.symm⟩
        rw [wrapI (by omega)]; rfl
      · ((conv=>whnf);repeat((first|refine Ct ‹_› ?_|refine Cf ‹_› ?_|refine Ct rfl ?_|refine Cf rfl ?_|refine Bi rfl ?_|refine Bz rfl ?_|refine Lr ?_);conv=>whnf))
        rw [if_neg (by rw [onS, g2, g3]; simp)] at hnx
        refine ⟨n - 1, t + 1, out, ?_, by omega, by omega, by omega, hnx.symm⟩
        rw [wrapI (by omega)]; rfl
    · ((conv=>whnf);repeat((first|refine Ct ‹_› ?_|refine Cf ‹_› ?_|refine Ct rfl ?_|refine Cf rfl ?_|refine Bi rfl ?_|refine Bz rfl ?_|refine Lr ?_);conv=>whnf))
      rw [if_neg (by rw [onS, g2]; simp)] at hnx
      refine ⟨n - 1, t + 1, out, ?_, by omega, by omega, by omega, hnx.symm⟩
      rw [wrapI (by omega)]; rfl
  · have ht := of_decide_eq_false g
    ((conv=>whnf);repeat((first|refine Ct ‹_› ?_|refine Cf ‹_› ?_|refine Ct rfl ?_|refine Cf rfl ?_|refine Bi rfl ?_|refine Bz rfl ?_|refine Lr ?_);conv=>whnf))
    rw [h3, show t.toNat = s.un.length by omega]
    exact ⟨rfl, rfl, rfl⟩

theorem F_unitsOf (s : Stt) (hs : s.un.length ≤ 1048576) (side : Int) :
    Fun E0 55 [.agg s.cs, vI side] [] (.v (.one (.own 0 (selU (onS side) s.un s.un.length).length))) [(0, rwI (selU (onS side) s.un s.un.length))] [] := by
  refine Fun_of_xc k55 rfl rfl (nrC (rwI_no _) nrN) ?_
  ((conv=>whnf);repeat((first|refine Ct ‹_› ?_|refine Cf ‹_› ?_|refine Ct rfl ?_|refine Cf rfl ?_|refine Bi rfl ?_|refine Bz rfl ?_|refine Lr ?_);conv=>whnf))
  refine Rw_i (rwI []) (rwI_nil _) ?_
  ((conv=>whnf);repeat((first|refine Ct ‹_› ?_|refine Cf ‹_› ?_|refine Ct rfl ?_|refine Cf rfl ?_|refine Bi rfl ?_|refine Bz rfl ?_|refine Lr ?_);conv=>whnf))
  refine Rw_i (rwI []) (rwI_nil _) ?_
  ((conv=>whnf);repeat((first|refine Ct ‹_› ?_|refine Cf ‹_› ?_|refine Ct rfl ?_|refine Cf rfl ?_|refine Bi rfl ?_|refine Bz rfl ?_|refine Lr ?_);conv=>whnf))
  refine WLoop_v2 ⟨[1, 5, 10, 11, 12], [], []⟩ (fun (t : Int) (out : List Int) => hdS 32 [(1, .v (vI side)), (5, .v (.one (.own (vkey 5) out.length))), (10, .v (.one (roU s.un))), (11, .v (vI s.un.length)), (12, .v (vI t))] [] [(vkey 5, rwI out)])
    (fun n t out => 0 ≤ t ∧ t + n = s.un.length ∧ out = selU (onS side) s.un t.toNat) s.un.length 0 [] rfl ⟨by omega, by omega, rfl⟩ ?_
  rintro n t out ⟨h1, h2, h3⟩
  have hle := selU_le (onS side) s.un t.toNat
  rw [← h3] at hle
  have hnx : selU (onS side) s.un (t + 1).toNat = if onS side (s.un.getD t.toNat Unt.d) = true then out ++ [t] else out := by
    rw [show (t + 1).toNat = t.toNat + 1 by omega, selU, ← h3, show ((t.toNat : Nat) : Int) = t by omega]
  ((conv=>whnf);repeat((first|refine Ct ‹_› ?_|refine Cf ‹_› ?_|refine Ct rfl ?_|refine Cf rfl ?_|refine Bi rfl ?_|refine Bz rfl ?_|refine Lr ?_);conv=>whnf))
  refine Cnd_i (fun g => ?_) (fun g => ?_)
  · have ht := of_decide_eq_true g
    ((conv=>whnf);repeat((first|refine Ct ‹_› ?_|refine Cf ‹_› ?_|refine Ct rfl ?_|refine Cf rfl ?_|refine Bi rfl ?_|refine Bz rfl ?_|refine Lr ?_);conv=>whnf))
    refine Bnd_i (⟨h1, ht⟩) ?_; ((conv=>whnf);repeat((first|refine Ct ‹_› ?_|refine Cf ‹_› ?_|refine Ct rfl ?_|refine Cf rfl ?_|refine Bi rfl ?_|refine Bz rfl ?_|refine Lr ?_);conv=>whnf))
    refine Cnd_i (fun g2 => ?_) (fun g2 => ?_)
    · ((conv=>whnf);repeat((first|refine Ct ‹_› ?_|refine Cf ‹_› ?_|refine Ct rfl ?_|refine Cf rfl ?_|refine Bi rfl ?_|refine Bz rfl ?_|refine Lr ?_);conv=>whnf))
      refine Cnd_i (fun g3 => ?_) (fun g3 => ?_)
      · ((conv=>whnf);repeat((first|refine Ct ‹_› ?_|refine Cf ‹_› ?_|refine Ct rfl ?_|refine Cf rfl ?_|refine Bi rfl ?_|refine Bz rfl ?_|refine Lr ?_);conv=>whnf))
        refine Rw_self ?_
        ((conv=>whnf);repeat((first|refine Ct ‹_› ?_|refine Cf ‹_› ?_|refine Ct rfl ?_|refine Cf rfl ?_|refine Bi rfl ?_|refine Bz rfl ?_|refine Lr ?_);conv=>whnf))
        refine Bnd_i ?_ ?_
        · show out.length + 1 < _
          omega
        ((conv=>whnf);repeat((first|refine Ct ‹_› ?_|refine Cf ‹_› ?_|refine Ct rfl ?_|refine Cf rfl ?_|refine Bi rfl ?_|refine Bz rfl ?_|refine Lr ?_);conv=>whnf))
        refine Rw_i (rwI (out ++ [t])) (rwI_app _ _ _ rfl) ?_
        ((conv=>whnf);repeat((first|refine Ct ‹_› ?_|refine Cf ‹_› ?_|refine Ct rfl ?_|refine Cf rfl ?_|refine Bi rfl ?_|refine Bz rfl ?_|refine Lr ?_);conv=>whnf))
        rw [if_pos (by rw [onS, g2, g3]; rfl)] at hnx
        refine ⟨n - 1, t + 1, out ++ [t], ?_, by omega, by omega, by omega, hnx.symm⟩
        rw [wrapI (by omega)]; rfl
      · ((conv=>whnf);repeat((first|refine Ct ‹_› ?_|refine Cf ‹_› ?_|refine Ct rfl ?_|refine Cf rfl ?_|refine Bi rfl ?_|refine Bz rfl ?_|refine Lr ?_);conv=>whnf))
        rw [if_neg (by rw [onS, g2, g3]; simp)] at hnx
        refine ⟨n - 1, t + 1, out, ?_, by omega, by omega, by omega, hnx.symm⟩
        rw [wrapI (by omega)]; rfl
    · ((conv=>whnf);repeat((first|refine Ct ‹_› ?_|refine Cf ‹_› ?_|refine Ct rfl ?_|refine Cf rfl ?_|refine Bi rfl ?_|refine Bz rfl ?_|refine Lr ?_);conv=>whnf))
      rw [if_neg (by rw [onS, g2]; simp)] at hnx
      refine ⟨n - 1, t + 1, out, ?_, by omega, by omega, by omega, hnx.symm⟩
      rw [wrapI (by omega)]; rfl
  · have ht := of_decide_eq_false g
    ((conv=>whnf);repeat((first|refine Ct ‹_› ?_|refine Cf ‹_› ?_|refine Ct rfl ?_|refine Cf rfl ?_|refine Bi rfl ?_|refine Bz rfl ?_|refine Lr ?_);conv=>whnf))
    rw [h3, show t.toNat = s.un.length by omega]
    exact ⟨rfl, rfl, rfl⟩

noncomputable def uofR (b : Brd) (s : Stt) (side : Int) : List Int × Bool :=
  if (okBrd b && okSt b s) = true then if In side 0 1 = true then (selU (onS side) s.un s.un.length, true) else ([], false) else ([], false)

theorem uofR_len (b : Brd) (s : Stt) (side : Int) (ho : b.Ok) : (uofR b s side).1.length ≤ 1048576 := by
  unfold uofR
  split
  · rename_i g
    split
    · have := selU_le (onS side) s.un s.un.length
      have := (StOk.of ho g).len
      show List.length (selU _ _ _) ≤ _
      omega
    · exact Nat.zero_le _
  · exact Nat.zero_le _

theorem F_UnitsOf (b : Brd) (ho : b.Ok) (s : Stt) (hs : s.Ok) (side : Int) :
    Fun E0 24 [.agg b.cs, .agg s.cs, vI side] [] (.tup [.one (.own 0 (uofR b s side).1.length), vB (uofR b s side).2]) [(0, rwI (uofR b s side).1)] [] := by
  refine Fun_of_xc k24 rfl rfl (nrC (rwI_no _) nrN) ?_
  ((conv=>whnf);repeat((first|refine Ct ‹_› ?_|refine Cf ‹_› ?_|refine Ct rfl ?_|refine Cf rfl ?_|refine Bi rfl ?_|refine Bz rfl ?_|refine Lr ?_);conv=>whnf))
  refine Rw_i (rwI []) (rwI_nil _) ?_
  ((conv=>whnf);repeat((first|refine Ct ‹_› ?_|refine Cf ‹_› ?_|refine Ct rfl ?_|refine Cf rfl ?_|refine Bi rfl ?_|refine Bz rfl ?_|refine Lr ?_);conv=>whnf))
  (refine CallQ_some (F_sGood b ho s hs) ?_ ?_ ?_; rfl; rfl); ((conv=>whnf);repeat((first|refine Ct ‹_› ?_|refine Cf ‹_› ?_|refine Ct rfl ?_|refine Cf rfl ?_|refine Bi rfl ?_|refine Bz rfl ?_|refine Lr ?_);conv=>whnf))
  refine Cnd_i (fun g => ?_) (fun g => ?_)
  · have e0 : (okBrd b && okSt b s) = false := by rwa [Bool.not_eq_true'] at g
    ((conv=>whnf);repeat((first|refine Ct ‹_› ?_|refine Cf ‹_› ?_|refine Ct rfl ?_|refine Cf rfl ?_|refine Bi rfl ?_|refine Bz rfl ?_|refine Lr ?_);conv=>whnf))
    refine Rw_i (rwI []) (rwI_nil _) ?_
    ((conv=>whnf);repeat((first|refine Ct ‹_› ?_|refine Cf ‹_› ?_|refine Ct rfl ?_|refine Cf rfl ?_|refine Bi rfl ?_|refine Bz rfl ?_|refine Lr ?_);conv=>whnf))
    rw [uofR, e0]
    exact ⟨rfl, rfl, rfl⟩
  have e0 : (okBrd b && okSt b s) = true := by rwa [Bool.not_eq_false'] at g
  have h := StOk.of ho e0
  have hl := h.len
  ((conv=>whnf);repeat((first|refine Ct ‹_› ?_|refine Cf ‹_› ?_|refine Ct rfl ?_|refine Cf rfl ?_|refine Bi rfl ?_|refine Bz rfl ?_|refine Lr ?_);conv=>whnf))
  (refine CallQ_some (F_l1In _ _ _) ?_ ?_ ?_; rfl; rfl); ((conv=>whnf);repeat((first|refine Ct ‹_› ?_|refine Cf ‹_› ?_|refine Ct rfl ?_|refine Cf rfl ?_|refine Bi rfl ?_|refine Bz rfl ?_|refine Lr ?_);conv=>whnf))
  refine Cnd_i (fun g => ?_) (fun g => ?_)
  · have e1 : In side 0 1 = false := by simpa using g
    ((conv=>whnf);repeat((first|refine Ct ‹_› ?_|refine Cf ‹_› ?_|refine Ct rfl ?_|refine Cf rfl ?_|refine Bi rfl ?_|refine Bz rfl ?_|refine Lr ?_);conv=>whnf))
    refine Rw_i (rwI []) (rwI_nil _) ?_
    ((conv=>whnf);repeat((first|refine Ct ‹_› ?_|refine Cf ‹_› ?_|refine Ct rfl ?_|refine Cf rfl ?_|refine Bi rfl ?_|refine Bz rfl ?_|refine Lr ?_);conv=>whnf))
    rw [uofR, e0, e1]
    exact ⟨rfl, rfl, rfl⟩
  have e1 : In side 0 1 = true := by simpa using g
  ((conv=>whnf);repeat((first|refine Ct ‹_› ?_|refine Cf ‹_› ?_|refine Ct rfl ?_|refine Cf rfl ?_|refine Bi rfl ?_|refine Bz rfl ?_|refine Lr ?_);conv=>whnf))
  (refine CallQ_some (F_sOf s (by omega) side) ?_ ?_ ?_; rfl; rfl); ((conv=>whnf);repeat((first|refine Ct ‹_› ?_|refine Cf ‹_› ?_|refine Ct rfl ?_|refine Cf rfl ?_|refine Bi rfl ?_|refine Bz rfl ?_|refine Lr ?_);conv=>whnf))
  rw [uofR, e0, e1]
  exact ⟨rfl, rfl, rfl⟩

theorem F_UnitsOfI (b : Brd) (ho : b.Ok) (s : Stt) (hs : s.Ok) (side : Int) :
    Fun E0 26 [.agg b.cs, .agg s.cs, vI side] [] (.tup [.one (.own 0 (uofR b s side).1.length), vB (uofR b s side).2]) [(0, rwI (uofR b s side).1)] [] := by
  refine Fun_of_xc k26 rfl rfl (nrC (rwI_no _) nrN) ?_
  ((conv=>whnf);repeat((first|refine Ct ‹_› ?_|refine Cf ‹_› ?_|refine Ct rfl ?_|refine Cf rfl ?_|refine Bi rfl ?_|refine Bz rfl ?_|refine Lr ?_);conv=>whnf))
  refine Rw_i (rwI []) (rwI_nil _) ?_
  ((conv=>whnf);repeat((first|refine Ct ‹_› ?_|refine Cf ‹_› ?_|refine Ct rfl ?_|refine Cf rfl ?_|refine Bi rfl ?_|refine Bz rfl ?_|refine Lr ?_);conv=>whnf))
  (refine CallQ_some (F_fits b ho s hs) ?_ ?_ ?_; rfl; rfl); ((conv=>whnf);repeat((first|refine Ct ‹_› ?_|refine Cf ‹_› ?_|refine Ct rfl ?_|refine Cf rfl ?_|refine Bi rfl ?_|refine Bz rfl ?_|refine Lr ?_);conv=>whnf))
  refine Cnd_i (fun g => ?_) (fun g => ?_)
  · have e0 : (okBrd b && okSt b s) = false := by rwa [Bool.not_eq_true'] at g
    ((conv=>whnf);repeat((first|refine Ct ‹_› ?_|refine Cf ‹_› ?_|refine Ct rfl ?_|refine Cf rfl ?_|refine Bi rfl ?_|refine Bz rfl ?_|refine Lr ?_);conv=>whnf))
    refine Rw_i (rwI []) (rwI_nil _) ?_
    ((conv=>whnf);repeat((first|refine Ct ‹_› ?_|refine Cf ‹_› ?_|refine Ct rfl ?_|refine Cf rfl ?_|refine Bi rfl ?_|refine Bz rfl ?_|refine Lr ?_);conv=>whnf))
    rw [uofR, e0]
    exact ⟨rfl, rfl, rfl⟩
  have e0 : (okBrd b && okSt b s) = true := by rwa [Bool.not_eq_false'] at g
  have h := StOk.of ho e0
  have hl := h.len
  ((conv=>whnf);repeat((first|refine Ct ‹_› ?_|refine Cf ‹_› ?_|refine Ct rfl ?_|refine Cf rfl ?_|refine Bi rfl ?_|refine Bz rfl ?_|refine Lr ?_);conv=>whnf))
  (refine CallQ_some (F_isSide _) ?_ ?_ ?_; rfl; rfl); ((conv=>whnf);repeat((first|refine Ct ‹_› ?_|refine Cf ‹_› ?_|refine Ct rfl ?_|refine Cf rfl ?_|refine Bi rfl ?_|refine Bz rfl ?_|refine Lr ?_);conv=>whnf))
  refine Cnd_i (fun g => ?_) (fun g => ?_)
  · have e1 : In side 0 1 = false := by simpa using g
    ((conv=>whnf);repeat((first|refine Ct ‹_› ?_|refine Cf ‹_› ?_|refine Ct rfl ?_|refine Cf rfl ?_|refine Bi rfl ?_|refine Bz rfl ?_|refine Lr ?_);conv=>whnf))
    refine Rw_i (rwI []) (rwI_nil _) ?_
    ((conv=>whnf);repeat((first|refine Ct ‹_› ?_|refine Cf ‹_› ?_|refine Ct rfl ?_|refine Cf rfl ?_|refine Bi rfl ?_|refine Bz rfl ?_|refine Lr ?_);conv=>whnf))
    rw [uofR, e0, e1]
    exact ⟨rfl, rfl, rfl⟩
  have e1 : In side 0 1 = true := by simpa using g
  ((conv=>whnf);repeat((first|refine Ct ‹_› ?_|refine Cf ‹_› ?_|refine Ct rfl ?_|refine Cf rfl ?_|refine Bi rfl ?_|refine Bz rfl ?_|refine Lr ?_);conv=>whnf))
  (refine CallQ_some (F_unitsOf s (by omega) side) ?_ ?_ ?_; rfl; rfl); ((conv=>whnf);repeat((first|refine Ct ‹_› ?_|refine Cf ‹_› ?_|refine Ct rfl ?_|refine Cf rfl ?_|refine Bi rfl ?_|refine Bz rfl ?_|refine Lr ?_);conv=>whnf))
  rw [uofR, e0, e1]
  exact ⟨rfl, rfl, rfl⟩

theorem F_FnExactUnitsOf (x0 : Brd) (x1 : Stt) (x2 : Int) (o0 : x0.Ok) (o1 : x1.Ok) (o2 : i64 x2) :
    Fun E0 6 [.agg x0.cs, .agg x1.cs, vI x2] [] (.v (vB true)) [] [] := by
  have hS := F_UnitsOf x0 o0 x1 o1 x2
  have hI := F_UnitsOfI x0 o0 x1 o1 x2
  have hr0 : (uofR x0 x1 x2).1.length ≤ 1048576 := uofR_len x0 x1 x2 o0
  revert hS hI hr0
  generalize uofR x0 x1 x2 = RR
  obtain ⟨r0, r1⟩ := RR
  intro hS hI hr0
  dsimp only at hS
  dsimp only at hI
  dsimp only at hr0
  refine Fun_of_xc k6 rfl rfl (fun k q h => by cases h) ?_
  ((conv=>whnf);repeat((first|refine Ct ‹_› ?_|refine Cf ‹_› ?_|refine Ct rfl ?_|refine Cf rfl ?_|refine Bi rfl ?_|refine Bz rfl ?_|refine Lr ?_);conv=>whnf))
  (refine CallQ_some (F_szBoard x0 o0 1048576 (by omega) (by omega)) ?_ ?_ ?_; rfl; rfl); ((conv=>whnf);repeat((first|refine Ct ‹_› ?_|refine Cf ‹_› ?_|refine Ct rfl ?_|refine Cf rfl ?_|refine Bi rfl ?_|refine Bz rfl ?_|refine Lr ?_);conv=>whnf))
  refine Cnd_i (fun g => ?_) (fun g => ?_)
  · ((conv=>whnf);repeat((first|refine Ct ‹_› ?_|refine Cf ‹_› ?_|refine Ct rfl ?_|refine Cf rfl ?_|refine Bi rfl ?_|refine Bz rfl ?_|refine Lr ?_);conv=>whnf))
    exact ⟨rfl, rfl, rfl⟩
  have sm0 := szB_sm (b := x0) (x := 1048576) (by omega) (by omega) (of_decide_eq_false g)
  have s0 := sm0.1
  have sb0 := sm0.2
  have sc0 := of_decide_eq_false g
  ((conv=>whnf);repeat((first|refine Ct ‹_› ?_|refine Cf ‹_› ?_|refine Ct rfl ?_|refine Cf rfl ?_|refine Bi rfl ?_|refine Bz rfl ?_|refine Lr ?_);conv=>whnf))
  (refine CallQ_some (F_szState x1 o1 (szB x0 1048576) (by omega) (by omega)) ?_ ?_ ?_; rfl; rfl); ((conv=>whnf);repeat((first|refine Ct ‹_› ?_|refine Cf ‹_› ?_|refine Ct rfl ?_|refine Cf rfl ?_|refine Bi rfl ?_|refine Bz rfl ?_|refine Lr ?_);conv=>whnf))
  refine Cnd_i (fun g => ?_) (fun g => ?_)
  · ((conv=>whnf);repeat((first|refine Ct ‹_› ?_|refine Cf ‹_› ?_|refine Ct rfl ?_|refine Cf rfl ?_|refine Bi rfl ?_|refine Bz rfl ?_|refine Lr ?_);conv=>whnf))
    exact ⟨rfl, rfl, rfl⟩
  have sm1 := szSt_sm (s := x1) (x := szB x0 1048576) (by omega) (by omega) (of_decide_eq_false g)
  have s1 := sm1.1
  have sb1 := sm1.2
  have sc1 := of_decide_eq_false g
  ((conv=>whnf);repeat((first|refine Ct ‹_› ?_|refine Cf ‹_› ?_|refine Ct rfl ?_|refine Cf rfl ?_|refine Bi rfl ?_|refine Bz rfl ?_|refine Lr ?_);conv=>whnf))
  (refine CallQ_some (F_toBoard x0 s0) ?_ ?_ ?_; rfl; rfl); ((conv=>whnf);repeat((first|refine Ct ‹_› ?_|refine Cf ‹_› ?_|refine Ct rfl ?_|refine Cf rfl ?_|refine Bi rfl ?_|refine Bz rfl ?_|refine Lr ?_);conv=>whnf))
  (refine CallQ_some (F_toState x1 s1) ?_ ?_ ?_; rfl; rfl); ((conv=>whnf);repeat((first|refine Ct ‹_› ?_|refine Cf ‹_› ?_|refine Ct rfl ?_|refine Cf rfl ?_|refine Bi rfl ?_|refine Bz rfl ?_|refine Lr ?_);conv=>whnf))
  refine CallQ_eq (snapBS x0 x1 _) ?_
  (refine CallQ_some (hS) ?_ ?_ ?_; rfl; rfl); ((conv=>whnf);repeat((first|refine Ct ‹_› ?_|refine Cf ‹_› ?_|refine Ct rfl ?_|refine Cf rfl ?_|refine Bi rfl ?_|refine Bz rfl ?_|refine Lr ?_);conv=>whnf))
  (refine CallQ_some (F_toBoard x0 s0) ?_ ?_ ?_; rfl; rfl); ((conv=>whnf);repeat((first|refine Ct ‹_› ?_|refine Cf ‹_› ?_|refine Ct rfl ?_|refine Cf rfl ?_|refine Bi rfl ?_|refine Bz rfl ?_|refine Lr ?_);conv=>whnf))
  (refine CallQ_some (F_toState x1 s1) ?_ ?_ ?_; rfl; rfl); ((conv=>whnf);repeat((first|refine Ct ‹_› ?_|refine Cf ‹_› ?_|refine Ct rfl ?_|refine Cf rfl ?_|refine Bi rfl ?_|refine Bz rfl ?_|refine Lr ?_);conv=>whnf))
  refine CallQ_eq (snapBS x0 x1 _) ?_
  (refine CallQ_some (hI) ?_ ?_ ?_; rfl; rfl); ((conv=>whnf);repeat((first|refine Ct ‹_› ?_|refine Cf ‹_› ?_|refine Ct rfl ?_|refine Cf rfl ?_|refine Bi rfl ?_|refine Bz rfl ?_|refine Lr ?_);conv=>whnf))
  (refine CallQ_some (F_eqIntS r0 hr0) ?_ ?_ ?_; rfl; rfl); ((conv=>whnf);repeat((first|refine Ct ‹_› ?_|refine Cf ‹_› ?_|refine Ct rfl ?_|refine Cf rfl ?_|refine Bi rfl ?_|refine Bz rfl ?_|refine Lr ?_);conv=>whnf))
  repeat (refine Cnd_f (by simp) ?_; ((conv=>whnf);repeat((first|refine Ct ‹_› ?_|refine Cf ‹_› ?_|refine Ct rfl ?_|refine Cf rfl ?_|refine Bi rfl ?_|refine Bz rfl ?_|refine Lr ?_);conv=>whnf)))
  repeat (refine Cnd_f (by simp) ?_; ((conv=>whnf);repeat((first|refine Ct ‹_› ?_|refine Cf ‹_› ?_|refine Ct rfl ?_|refine Cf rfl ?_|refine Bi rfl ?_|refine Bz rfl ?_|refine Lr ?_);conv=>whnf)))
  (refine CallQ_some (F_toBoard x0 s0) ?_ ?_ ?_; rfl; rfl); ((conv=>whnf);repeat((first|refine Ct ‹_› ?_|refine Cf ‹_› ?_|refine Ct rfl ?_|refine Cf rfl ?_|refine Bi rfl ?_|refine Bz rfl ?_|refine Lr ?_);conv=>whnf))
  refine CallQ_eq (snapBB x0) ?_
  (refine CallQ_some (F_eqBoard x0 s0) ?_ ?_ ?_; rfl; rfl); ((conv=>whnf);repeat((first|refine Ct ‹_› ?_|refine Cf ‹_› ?_|refine Ct rfl ?_|refine Cf rfl ?_|refine Bi rfl ?_|refine Bz rfl ?_|refine Lr ?_);conv=>whnf))
  (refine CallQ_some (F_toState x1 s1) ?_ ?_ ?_; rfl; rfl); ((conv=>whnf);repeat((first|refine Ct ‹_› ?_|refine Cf ‹_› ?_|refine Ct rfl ?_|refine Cf rfl ?_|refine Bi rfl ?_|refine Bz rfl ?_|refine Lr ?_);conv=>whnf))
  refine CallQ_eq (snapSS x1) ?_
  (refine CallQ_some (F_eqState x1 s1) ?_ ?_ ?_; rfl; rfl); ((conv=>whnf);repeat((first|refine Ct ‹_› ?_|refine Cf ‹_› ?_|refine Ct rfl ?_|refine Cf rfl ?_|refine Bi rfl ?_|refine Bz rfl ?_|refine Lr ?_);conv=>whnf))
  refine CallR_e (F_markBoard x0 s0 1 (by omega) (by omega)) ?_
  rintro _ _ o' ⟨k0, ka0, kb0, rfl, rfl, hs⟩
  obtain ⟨⟨_, q0⟩, ⟨_, q1⟩, ⟨_, q2⟩, ⟨_, q3⟩, ⟨_, q4⟩, rfl, ⟨⟩, ⟨⟩, ⟨⟩, ⟨⟩, ⟨⟩, t0, t1, t2, t3, t4⟩ := shape5 hs
  refine ⟨⟨rfl, t0.1, t0.2.1, t0.2.2, rfl, t1.1, t1.2.1, t1.2.2, rfl, t2.1, t2.2.1, t2.2.2, rfl, t3.1, t3.2.1, t3.2.2, rfl, t4.1, t4.2.1, t4.2.2, trivial⟩, rfl, rfl, ?_⟩
  conv => whnf
  refine ⟨rfl, ?_⟩
  ((conv=>whnf);repeat((first|refine Ct ‹_› ?_|refine Cf ‹_› ?_|refine Ct rfl ?_|refine Cf rfl ?_|refine Bi rfl ?_|refine Bz rfl ?_|refine Lr ?_);conv=>whnf))
  (refine CallR_some (F_markState x1 k0 s1 (by omega) (by omega)) (by repeat (first | exact trivial | refine ⟨rfl, rfl, rfl, rfl, ?_⟩)) ?_ ?_ ?_ ?_; rfl; rfl; rfl); ((conv=>whnf);repeat((first|refine Ct ‹_› ?_|refine Cf ‹_› ?_|refine Ct rfl ?_|refine Cf rfl ?_|refine Bi rfl ?_|refine Bz rfl ?_|refine Lr ?_);conv=>whnf))
  have hkn : decide ((k0 + 4 * x1.un.length : Int) < 0) = false := decide_eq_false (by omega)
  ((conv=>whnf);repeat((first|refine Ct ‹_› ?_|refine Cf ‹_› ?_|refine Ct rfl ?_|refine Cf rfl ?_|refine Bi rfl ?_|refine Bz rfl ?_|refine Lr ?_);conv=>whnf))
  (refine CallQ_some (F_eqIntS r0 hr0) ?_ ?_ ?_; rfl; rfl); ((conv=>whnf);repeat((first|refine Ct ‹_› ?_|refine Cf ‹_› ?_|refine Ct rfl ?_|refine Cf rfl ?_|refine Bi rfl ?_|refine Bz rfl ?_|refine Lr ?_);conv=>whnf))
  repeat (refine Cnd_f (by simp) ?_; ((conv=>whnf);repeat((first|refine Ct ‹_› ?_|refine Cf ‹_› ?_|refine Ct rfl ?_|refine Cf rfl ?_|refine Bi rfl ?_|refine Bz rfl ?_|refine Lr ?_);conv=>whnf)))
  repeat (refine Cnd_f (by simp) ?_; ((conv=>whnf);repeat((first|refine Ct ‹_› ?_|refine Cf ‹_› ?_|refine Ct rfl ?_|refine Cf rfl ?_|refine Bi rfl ?_|refine Bz rfl ?_|refine Lr ?_);conv=>whnf)))
  (refine CallR_some (F_markIntS r0 1 hr0 (by omega) (by omega)) (by repeat (first | exact trivial | refine ⟨rfl, rfl, rfl, rfl, ?_⟩)) ?_ ?_ ?_ ?_; rfl; rfl; rfl); ((conv=>whnf);repeat((first|refine Ct ‹_› ?_|refine Cf ‹_› ?_|refine Ct rfl ?_|refine Cf rfl ?_|refine Bi rfl ?_|refine Bz rfl ?_|refine Lr ?_);conv=>whnf))
  (refine CallQ_some (F_heldIntS 1 r0.length hr0 (by omega) (by omega)) ?_ ?_ ?_; rfl; rfl); ((conv=>whnf);repeat((first|refine Ct ‹_› ?_|refine Cf ‹_› ?_|refine Ct rfl ?_|refine Cf rfl ?_|refine Bi rfl ?_|refine Bz rfl ?_|refine Lr ?_);conv=>whnf))
  have hq0 : decide (1 + (r0.length : Int) < 0) = false := decide_eq_false (by omega)
  ((conv=>whnf);repeat((first|refine Ct ‹_› ?_|refine Cf ‹_› ?_|refine Ct rfl ?_|refine Cf rfl ?_|refine Bi rfl ?_|refine Bz rfl ?_|refine Lr ?_);conv=>whnf))
  repeat (refine Cnd_f (by simp) ?_; ((conv=>whnf);repeat((first|refine Ct ‹_› ?_|refine Cf ‹_› ?_|refine Ct rfl ?_|refine Cf rfl ?_|refine Bi rfl ?_|refine Bz rfl ?_|refine Lr ?_);conv=>whnf)))
  (refine CallQ_some (F_toBoard x0 s0) ?_ ?_ ?_; rfl; rfl); ((conv=>whnf);repeat((first|refine Ct ‹_› ?_|refine Cf ‹_› ?_|refine Ct rfl ?_|refine Cf rfl ?_|refine Bi rfl ?_|refine Bz rfl ?_|refine Lr ?_);conv=>whnf))
  (refine CallQ_some (F_toState x1 s1) ?_ ?_ ?_; rfl; rfl); ((conv=>whnf);repeat((first|refine Ct ‹_› ?_|refine Cf ‹_› ?_|refine Ct rfl ?_|refine Cf rfl ?_|refine Bi rfl ?_|refine Bz rfl ?_|refine Lr ?_);conv=>whnf))
  refine CallQ_eq (snapBS x0 x1 _) ?_
  (refine CallQ_some (hI) ?_ ?_ ?_; rfl; rfl); ((conv=>whnf);repeat((first|refine Ct ‹_› ?_|refine Cf ‹_› ?_|refine Ct rfl ?_|refine Cf rfl ?_|refine Bi rfl ?_|refine Bz rfl ?_|refine Lr ?_);conv=>whnf))
  (refine CallQ_some (F_eqIntS r0 hr0) ?_ ?_ ?_; rfl; rfl); ((conv=>whnf);repeat((first|refine Ct ‹_› ?_|refine Cf ‹_› ?_|refine Ct rfl ?_|refine Cf rfl ?_|refine Bi rfl ?_|refine Bz rfl ?_|refine Lr ?_);conv=>whnf))
  repeat (refine Cnd_f (by simp) ?_; ((conv=>whnf);repeat((first|refine Ct ‹_› ?_|refine Cf ‹_› ?_|refine Ct rfl ?_|refine Cf rfl ?_|refine Bi rfl ?_|refine Bz rfl ?_|refine Lr ?_);conv=>whnf)))
  repeat (refine Cnd_f (by simp) ?_; ((conv=>whnf);repeat((first|refine Ct ‹_› ?_|refine Cf ‹_› ?_|refine Ct rfl ?_|refine Cf rfl ?_|refine Bi rfl ?_|refine Bz rfl ?_|refine Lr ?_);conv=>whnf)))
  (refine CallQ_some (F_heldIntS 1 r0.length hr0 (by omega) (by omega)) ?_ ?_ ?_; rfl; rfl); ((conv=>whnf);repeat((first|refine Ct ‹_› ?_|refine Cf ‹_› ?_|refine Ct rfl ?_|refine Cf rfl ?_|refine Bi rfl ?_|refine Bz rfl ?_|refine Lr ?_);conv=>whnf))
  repeat (refine Cnd_f (by simp) ?_; ((conv=>whnf);repeat((first|refine Ct ‹_› ?_|refine Cf ‹_› ?_|refine Ct rfl ?_|refine Cf rfl ?_|refine Bi rfl ?_|refine Bz rfl ?_|refine Lr ?_);conv=>whnf)))
  exact ⟨rfl, rfl, rfl⟩
end Go.Proofs.YthaeflammjofeaaDoor.Ab
