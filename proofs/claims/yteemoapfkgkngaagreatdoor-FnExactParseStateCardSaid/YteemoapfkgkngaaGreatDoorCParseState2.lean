/- Contracts of the functions that FnExactParseState reaches, by the abstract machine (part 2).
   Conditions: none. -/
import Derived.Test.YteemoapfkgkngaaGreatDoorCParseState1
set_option linter.unusedVariables false
set_option linter.unusedSimpArgs false
namespace Go.Proofs.YteemoapfkgkngaaGreatDoor.Ab
open Go Go.RowKit
attribute [local irreducible] Cnd Bnd Rw CallQ CallR Bts Isn Lc WLoop
set_option maxRecDepth 100000
set_option maxHeartbeats 1000000
theorem F_goodState (b : Brd) (h : GB b) (s : Stt) (hs : s.Ok) : Fun E0 28 [.agg b.cs, .agg s.cs] [] (.v (vB (okSt b s))) [] [] := by
  have hst : 0 ≤ b.r.stack := by
    have := h.nums
    simp only [numsOk, Bool.and_eq_true] at this
    have := of_decide_eq_true this.1.1.1.1
    omega
  have hN := h.n
  have hNl : b.m.ter.length ≤ 1048576 := by have := h.wh.mul; omega
  refine Fun_of_xc k28 rfl rfl (fun k q h => by cases h) ?_
  ((conv=>whnf);repeat((first|refine Ct ‹_› ?_|refine Cf ‹_› ?_|refine Ct rfl ?_|refine Cf rfl ?_|refine Bi rfl ?_|refine Bz rfl ?_|refine Lr ?_);conv=>whnf))
  (refine CallQ_some (F_inRange _ _ _) ?_ ?_ ?_; rfl; rfl); ((conv=>whnf);repeat((first|refine Ct ‹_› ?_|refine Cf ‹_› ?_|refine Ct rfl ?_|refine Cf rfl ?_|refine Bi rfl ?_|refine Bz rfl ?_|refine Lr ?_);conv=>whnf))
  refine Cnd_i (fun g => ?_) (fun g => ?_)
  · have e1 : In s.turn 0 b.r.turns = false := by simpa using g
    ((conv=>whnf);repeat((first|refine Ct ‹_› ?_|refine Cf ‹_› ?_|refine Ct rfl ?_|refine Cf rfl ?_|refine Bi rfl ?_|refine Bz rfl ?_|refine Lr ?_);conv=>whnf))
    rw [okSt, e1]
    exact ⟨rfl, rfl, rfl⟩
  have e1 : In s.turn 0 b.r.turns = true := by simpa using g
  ((conv=>whnf);repeat((first|refine Ct ‹_› ?_|refine Cf ‹_› ?_|refine Ct rfl ?_|refine Cf rfl ?_|refine Bi rfl ?_|refine Bz rfl ?_|refine Lr ?_);conv=>whnf))
  (refine CallQ_some (F_inRange _ _ _) ?_ ?_ ?_; rfl; rfl); ((conv=>whnf);repeat((first|refine Ct ‹_› ?_|refine Cf ‹_› ?_|refine Ct rfl ?_|refine Cf rfl ?_|refine Bi rfl ?_|refine Bz rfl ?_|refine Lr ?_);conv=>whnf))
  refine Cnd_i (fun g => ?_) (fun g => ?_)
  · have e2 : In s.wea 0 2 = false := by simpa using g
    ((conv=>whnf);repeat((first|refine Ct ‹_› ?_|refine Cf ‹_› ?_|refine Ct rfl ?_|refine Cf rfl ?_|refine Bi rfl ?_|refine Bz rfl ?_|refine Lr ?_);conv=>whnf))
    rw [okSt, e1, e2]
    exact ⟨rfl, rfl, rfl⟩
  have e2 : In s.wea 0 2 = true := by simpa using g
  ((conv=>whnf);repeat((first|refine Ct ‹_› ?_|refine Cf ‹_› ?_|refine Ct rfl ?_|refine Cf rfl ?_|refine Bi rfl ?_|refine Bz rfl ?_|refine Lr ?_);conv=>whnf))
  refine Cnd_i (fun g => ?_) (fun g => ?_)
  · have e3 : decide (s.un.length ≤ 12) = false := by
      have := of_decide_eq_true g
      exact decide_eq_false (by omega)
    ((conv=>whnf);repeat((first|refine Ct ‹_› ?_|refine Cf ‹_› ?_|refine Ct rfl ?_|refine Cf rfl ?_|refine Bi rfl ?_|refine Bz rfl ?_|refine Lr ?_);conv=>whnf))
    rw [okSt, e1, e2, e3]
    exact ⟨rfl, rfl, rfl⟩
  have hl : s.un.length ≤ 12 := by
    have := of_decide_eq_false g
    omega
  have e3 : decide (s.un.length ≤ 12) = true := decide_eq_true hl
  ((conv=>whnf);repeat((first|refine Ct ‹_› ?_|refine Cf ‹_› ?_|refine Ct rfl ?_|refine Cf rfl ?_|refine Bi rfl ?_|refine Bz rfl ?_|refine Lr ?_);conv=>whnf))
  (refine CallQ_some (F_sizeOf b) ?_ ?_ ?_; rfl; rfl); ((conv=>whnf);repeat((first|refine Ct ‹_› ?_|refine Cf ‹_› ?_|refine Ct rfl ?_|refine Cf rfl ?_|refine Bi rfl ?_|refine Bz rfl ?_|refine Lr ?_);conv=>whnf))
  refine Bnd_i ?_ ?_
  · omega
  ((conv=>whnf);repeat((first|refine Ct ‹_› ?_|refine Cf ‹_› ?_|refine Ct rfl ?_|refine Cf rfl ?_|refine Bi rfl ?_|refine Bz rfl ?_|refine Lr ?_);conv=>whnf))
  refine Rw_i (rwC s.un b.m.ter.length 0) ⟨rfl, rfl, by simp [zeroRow], fun i j hi hj => ?_⟩ ?_
  · have hj : j < 2 := hj
    match j, hj with
    | 0, _ => rfl
    | 1, _ => rfl
  ((conv=>whnf);repeat((first|refine Ct ‹_› ?_|refine Cf ‹_› ?_|refine Ct rfl ?_|refine Cf rfl ?_|refine Bi rfl ?_|refine Bz rfl ?_|refine Lr ?_);conv=>whnf))
  refine WLoop_v ⟨[2, 5, 31, 32, 33], [2], []⟩ (fun t : Int => hdS 80 [(2, .v (.one (.box 2 0))), (5, .v (.one (.own (vkey 5) b.m.ter.length))), (31, .v (.one (roU s.un))), (32, .v (vI s.un.length)), (33, .v (vI t))] [(2, b.cs)] [(vkey 5, rwC s.un b.m.ter.length t.toNat)])
    (fun n t => 0 ≤ t ∧ t + n = s.un.length ∧ (∀ k : Nat, (k : Int) < t → okUnt b (s.un.getD k Unt.d) = true) ∧ pre b.r.stack s.un t.toNat) s.un.length 0 rfl ⟨by omega, by omega, fun k hk => by omega, fun k hk => by omega⟩ ?_
  rintro n t ⟨h1, h2, h3, h4⟩
  ((conv=>whnf);repeat((first|refine Ct ‹_› ?_|refine Cf ‹_› ?_|refine Ct rfl ?_|refine Cf rfl ?_|refine Bi rfl ?_|refine Bz rfl ?_|refine Lr ?_);conv=>whnf))
  refine Cnd_i (fun g => ?_) (fun g => ?_)
  · have ht := of_decide_eq_true g
    ((conv=>whnf);repeat((first|refine Ct ‹_› ?_|refine Cf ‹_› ?_|refine Ct rfl ?_|refine Cf rfl ?_|refine Bi rfl ?_|refine Bz rfl ?_|refine Lr ?_);conv=>whnf))
    refine Bnd_i (⟨h1, ht⟩) ?_; ((conv=>whnf);repeat((first|refine Ct ‹_› ?_|refine Cf ‹_› ?_|refine Ct rfl ?_|refine Cf rfl ?_|refine Bi rfl ?_|refine Bz rfl ?_|refine Lr ?_);conv=>whnf))
    (refine CallQ_some (F_goodUnit b h (s.un.getD t.toNat Unt.d)) ?_ ?_ ?_; rfl; rfl); ((conv=>whnf);repeat((first|refine Ct ‹_› ?_|refine Cf ‹_› ?_|refine Ct rfl ?_|refine Cf rfl ?_|refine Bi rfl ?_|refine Bz rfl ?_|refine Lr ?_);conv=>whnf))
    refine Cnd_i (fun g => ?_) (fun g => ?_)
    · have e4 : okUnt b (s.un.getD t.toNat Unt.d) = false := by simpa using g
      ((conv=>whnf);repeat((first|refine Ct ‹_› ?_|refine Cf ‹_› ?_|refine Ct rfl ?_|refine Cf rfl ?_|refine Bi rfl ?_|refine Bz rfl ?_|refine Lr ?_);conv=>whnf))
      rw [okSt, e1, e2, e3, all_drop_ne h1 ht e4]
      exact ⟨rfl, rfl, rfl⟩
    have e4 : okUnt b (s.un.getD t.toNat Unt.d) = true := by simpa using g
    have hU := UnOk.of h e4
    have h3' : ∀ k : Nat, (k : Int) < t + 1 → okUnt b (s.un.getD k Unt.d) = true := fun k hk => by
      by_cases e : (k : Int) < t
      · exact h3 k e
      · rw [show k = t.toNat by omega]; exact e4
    have hs1 := cnt_succ s.un t.toNat
    have hb1 := fun i s' => (cnt_b s.un t.toNat i s')
    ((conv=>whnf);repeat((first|refine Ct ‹_› ?_|refine Cf ‹_› ?_|refine Ct rfl ?_|refine Cf rfl ?_|refine Bi rfl ?_|refine Bz rfl ?_|refine Lr ?_);conv=>whnf))
    refine Cnd_i (fun g5 => ?_) (fun g5 => ?_)
    · have d5 := of_decide_eq_true g5
      ((conv=>whnf);repeat((first|refine Ct ‹_› ?_|refine Cf ‹_› ?_|refine Ct rfl ?_|refine Cf rfl ?_|refine Bi rfl ?_|refine Bz rfl ?_|refine Lr ?_);conv=>whnf))
      have hx : ∀ i : Nat, ∀ s', cnt s.un (t.toNat + 1) i s' = cnt s.un t.toNat i s' := fun i s' => by
        rw [hs1, if_neg (by rw [atQ, show ((s.un.getD t.toNat Unt.d).at' == (i : Int)) = false from beq_eq_false_iff_ne.2 (by omega)]; simp)]
        omega
      refine ⟨n - 1, t + 1, ?_, by omega, by omega, by omega, h3', ?_⟩
      · rw [wrapI (by omega), show (t + 1).toNat = t.toNat + 1 by omega]
        unfold rwC
        simp only [hx]
        rfl
      · rw [show (t + 1).toNat = t.toNat + 1 by omega]
        intro k hk ha
        by_cases e : k < t.toNat
        · exact h4 k e ha
        · rw [show k = t.toNat by omega] at ha
          omega
    · have d5 := of_decide_eq_false g5
      have hat : 0 ≤ (s.un.getD t.toNat Unt.d).at' ∧ (s.un.getD t.toNat Unt.d).at' < b.m.ter.length := by have := hU.at'; omega
      ((conv=>whnf);repeat((first|refine Ct ‹_› ?_|refine Cf ‹_› ?_|refine Ct rfl ?_|refine Cf rfl ?_|refine Bi rfl ?_|refine Bz rfl ?_|refine Lr ?_);conv=>whnf))
      refine Bnd_i (hat) ?_; ((conv=>whnf);repeat((first|refine Ct ‹_› ?_|refine Cf ‹_› ?_|refine Ct rfl ?_|refine Cf rfl ?_|refine Bi rfl ?_|refine Bz rfl ?_|refine Lr ?_);conv=>whnf))
      refine Bnd_i (⟨by have := hU.side; omega, by have := hU.side; show _ < (2 : Int); omega⟩) ?_; ((conv=>whnf);repeat((first|refine Ct ‹_› ?_|refine Cf ‹_› ?_|refine Ct rfl ?_|refine Cf rfl ?_|refine Bi rfl ?_|refine Bz rfl ?_|refine Lr ?_);conv=>whnf))
      have hsd := hU.side
      have hsi : 0 ≤ (s.un.getD t.toNat Unt.d).side ∧ (s.un.getD t.toNat Unt.d).side < ((2 : Nat) : Int) := by omega
      have hso : 0 + (s.un.getD t.toNat Unt.d).side.toNat * 1 + 1 ≤ 2 := by omega
      have hso2 : 0 + (1 - (s.un.getD t.toNat Unt.d).side).toNat * 1 + 1 ≤ 2 := by omega
      refine Bnd_i (Nat.ble_eq_true_of_le hso) ?_; ((conv=>whnf);repeat((first|refine Ct ‹_› ?_|refine Cf ‹_› ?_|refine Ct rfl ?_|refine Cf rfl ?_|refine Bi rfl ?_|refine Bz rfl ?_|refine Lr ?_);conv=>whnf))
      refine Bnd_i (hat) ?_; ((conv=>whnf);repeat((first|refine Ct ‹_› ?_|refine Cf ‹_› ?_|refine Ct rfl ?_|refine Cf rfl ?_|refine Bi rfl ?_|refine Bz rfl ?_|refine Lr ?_);conv=>whnf))
      refine Bnd_i (hsi) ?_; ((conv=>whnf);repeat((first|refine Ct ‹_› ?_|refine Cf ‹_› ?_|refine Ct rfl ?_|refine Cf rfl ?_|refine Bi rfl ?_|refine Bz rfl ?_|refine Lr ?_);conv=>whnf))
      refine Bnd_i (Nat.ble_eq_true_of_le hso) ?_; ((conv=>whnf);repeat((first|refine Ct ‹_› ?_|refine Cf ‹_› ?_|refine Ct rfl ?_|refine Cf rfl ?_|refine Bi rfl ?_|refine Bz rfl ?_|refine Lr ?_);conv=>whnf))
      refine Rw_i (rwC s.un b.m.ter.length (t.toNat + 1)) ⟨rfl, rfl, rfl, fun i j hi hj => ?_⟩ ?_
      · have hj : j < 2 := hj
        show wrG (rwC s.un b.m.ter.length t.toNat).get (s.un.getD t.toNat Unt.d).at'.toNat (0 + (s.un.getD t.toNat Unt.d).side.toNat * 1) [cI (IntKind.i64.wrap (cnt s.un t.toNat ((s.un.getD t.toNat Unt.d).at'.toNat : Nat) ((0 + (s.un.getD t.toNat Unt.d).side.toNat * 1 : Nat)) + 1))] i j = cI (cnt s.un (t.toNat + 1) i j)
        by_cases e : i = (s.un.getD t.toNat Unt.d).at'.toNat ∧ j = (s.un.getD t.toNat Unt.d).side.toNat
        · obtain ⟨rfl, rfl⟩ := e
          rw [wrG_in (by simp), show 0 + (s.un.getD t.toNat Unt.d).side.toNat * 1 = (s.un.getD t.toNat Unt.d).side.toNat by omega, hs1, if_pos (atQ_iff.2 ⟨by omega, by omega⟩), wrapI (by have := hb1 ((s.un.getD t.toNat Unt.d).at'.toNat : Nat) ((s.un.getD t.toNat Unt.d).side.toNat : Nat); omega)]
          simp [nth]
        · rw [wrG_out (by rintro ⟨e1, e2, e3⟩; have e3' : j < 0 + (s.un.getD t.toNat Unt.d).side.toNat * 1 + 1 := e3; exact e ⟨e1, by omega⟩)]
          show cI _ = cI _
          rw [hs1, if_neg (fun hh => e (by have := atQ_iff.1 hh; omega)), Int.add_zero]
      ((conv=>whnf);repeat((first|refine Ct ‹_› ?_|refine Cf ‹_› ?_|refine Ct rfl ?_|refine Cf rfl ?_|refine Bi rfl ?_|refine Bz rfl ?_|refine Lr ?_);conv=>whnf))
      refine Bnd_i (hat) ?_; ((conv=>whnf);repeat((first|refine Ct ‹_› ?_|refine Cf ‹_› ?_|refine Ct rfl ?_|refine Cf rfl ?_|refine Bi rfl ?_|refine Bz rfl ?_|refine Lr ?_);conv=>whnf))
      rw [wrapI (n := 1 - (s.un.getD t.toNat Unt.d).side) (by omega)]
      refine Bnd_i (⟨by omega, by omega⟩) ?_; ((conv=>whnf);repeat((first|refine Ct ‹_› ?_|refine Cf ‹_› ?_|refine Ct rfl ?_|refine Cf rfl ?_|refine Bi rfl ?_|refine Bz rfl ?_|refine Lr ?_);conv=>whnf))
      refine Bnd_i (Nat.ble_eq_true_of_le hso2) ?_; ((conv=>whnf);repeat((first|refine Ct ‹_› ?_|refine Cf ‹_› ?_|refine Ct rfl ?_|refine Cf rfl ?_|refine Bi rfl ?_|refine Bz rfl ?_|refine Lr ?_);conv=>whnf))
      have ea : (((s.un.getD t.toNat Unt.d).at'.toNat : Nat) : Int) = (s.un.getD t.toNat Unt.d).at' := by omega
      have eb : ((0 + (1 - (s.un.getD t.toNat Unt.d).side).toNat * 1 : Nat) : Int) = 1 - (s.un.getD t.toNat Unt.d).side := by omega
      have ec : ((0 + (s.un.getD t.toNat Unt.d).side.toNat * 1 : Nat) : Int) = (s.un.getD t.toNat Unt.d).side := by omega
      have bad : ¬ (cnt s.un (t.toNat + 1) (s.un.getD t.toNat Unt.d).at' (1 - (s.un.getD t.toNat Unt.d).side) = 0 ∧ cnt s.un (t.toNat + 1) (s.un.getD t.toNat Unt.d).at' (s.un.getD t.toNat Unt.d).side ≤ b.r.stack) → decide (stk b.r.stack s.un) = false := fun hh => by
        refine decide_eq_false fun hk => hh ?_
        have a1 := hk t.toNat (by omega) hat.1
        have a2 := cnt_mono s.un (show t.toNat + 1 ≤ s.un.length by omega) (s.un.getD t.toNat Unt.d).at' (1 - (s.un.getD t.toNat Unt.d).side)
        have a3 := cnt_mono s.un (show t.toNat + 1 ≤ s.un.length by omega) (s.un.getD t.toNat Unt.d).at' (s.un.getD t.toNat Unt.d).side
        have a4 := (cnt_b s.un (t.toNat + 1) (s.un.getD t.toNat Unt.d).at' (1 - (s.un.getD t.toNat Unt.d).side)).1
        omega
      have a4 := (cnt_b s.un (t.toNat + 1) (s.un.getD t.toNat Unt.d).at' (1 - (s.un.getD t.toNat Unt.d).side)).1
      refine Cnd_i (fun g6 => ?_) (fun g6 => ?_)
      · have d6 : cnt s.un (t.toNat + 1) ((s.un.getD t.toNat Unt.d).at'.toNat : Nat) ((0 + (1 - (s.un.getD t.toNat Unt.d).side).toNat * 1 : Nat)) > 0 := of_decide_eq_true g6
        rw [ea, eb] at d6
        ((conv=>whnf);repeat((first|refine Ct ‹_› ?_|refine Cf ‹_› ?_|refine Ct rfl ?_|refine Cf rfl ?_|refine Bi rfl ?_|refine Bz rfl ?_|refine Lr ?_);conv=>whnf))
        rw [okSt, e1, e2, e3, bad (by omega)]
        rw [Bool.and_false]
        exact ⟨rfl, rfl, rfl⟩
      · have d6 : ¬ cnt s.un (t.toNat + 1) ((s.un.getD t.toNat Unt.d).at'.toNat : Nat) ((0 + (1 - (s.un.getD t.toNat Unt.d).side).toNat * 1 : Nat)) > 0 := of_decide_eq_false g6
        rw [ea, eb] at d6
        ((conv=>whnf);repeat((first|refine Ct ‹_› ?_|refine Cf ‹_› ?_|refine Ct rfl ?_|refine Cf rfl ?_|refine Bi rfl ?_|refine Bz rfl ?_|refine Lr ?_);conv=>whnf))
        refine Bnd_i (hat) ?_; ((conv=>whnf);repeat((first|refine Ct ‹_› ?_|refine Cf ‹_› ?_|refine Ct rfl ?_|refine Cf rfl ?_|refine Bi rfl ?_|refine Bz rfl ?_|refine Lr ?_);conv=>whnf))
        refine Bnd_i (hsi) ?_; ((conv=>whnf);repeat((first|refine Ct ‹_› ?_|refine Cf ‹_› ?_|refine Ct rfl ?_|refine Cf rfl ?_|refine Bi rfl ?_|refine Bz rfl ?_|refine Lr ?_);conv=>whnf))
        refine Bnd_i (Nat.ble_eq_true_of_le hso) ?_; ((conv=>whnf);repeat((first|refine Ct ‹_› ?_|refine Cf ‹_› ?_|refine Ct rfl ?_|refine Cf rfl ?_|refine Bi rfl ?_|refine Bz rfl ?_|refine Lr ?_);conv=>whnf))
        refine Cnd_i (fun g7 => ?_) (fun g7 => ?_)
        · have d7 : cnt s.un (t.toNat + 1) ((s.un.getD t.toNat Unt.d).at'.toNat : Nat) ((0 + (s.un.getD t.toNat Unt.d).side.toNat * 1 : Nat)) > b.r.stack := of_decide_eq_true g7
          rw [ea, ec] at d7
          ((conv=>whnf);repeat((first|refine Ct ‹_› ?_|refine Cf ‹_› ?_|refine Ct rfl ?_|refine Cf rfl ?_|refine Bi rfl ?_|refine Bz rfl ?_|refine Lr ?_);conv=>whnf))
          rw [okSt, e1, e2, e3, bad (by omega)]
          rw [Bool.and_false]
          exact ⟨rfl, rfl, rfl⟩
        · have d7 : ¬ cnt s.un (t.toNat + 1) ((s.un.getD t.toNat Unt.d).at'.toNat : Nat) ((0 + (s.un.getD t.toNat Unt.d).side.toNat * 1 : Nat)) > b.r.stack := of_decide_eq_false g7
          rw [ea, ec] at d7
          ((conv=>whnf);repeat((first|refine Ct ‹_› ?_|refine Cf ‹_› ?_|refine Ct rfl ?_|refine Cf rfl ?_|refine Bi rfl ?_|refine Bz rfl ?_|refine Lr ?_);conv=>whnf))
          refine ⟨n - 1, t + 1, ?_, by omega, by omega, by omega, h3', ?_⟩
          · rw [wrapI (by omega), show (t + 1).toNat = t.toNat + 1 by omega]
            rfl
          · rw [show (t + 1).toNat = t.toNat + 1 by omega]
            intro k hk ha
            by_cases e : k < t.toNat
            · exact h4 k e ha
            · rw [show k = t.toNat by omega]
              exact ⟨by omega, by omega⟩
  · have ht := of_decide_eq_false g
    ((conv=>whnf);repeat((first|refine Ct ‹_› ?_|refine Cf ‹_› ?_|refine Ct rfl ?_|refine Cf rfl ?_|refine Bi rfl ?_|refine Bz rfl ?_|refine Lr ?_);conv=>whnf))
    have e4 : s.un.all (okUnt b) = true := all_of_lt Unt.d fun k hk => h3 k (by omega)
    have e5 : stk b.r.stack s.un := (stk_pre hst fun k hk => (UnOk.of h (h3 k (by omega))).side).2 (by rw [show s.un.length = t.toNat by omega]; exact h4)
    rw [okSt, e1, e2, e3, e4, decide_eq_true e5]
    exact ⟨rfl, rfl, rfl⟩

structure StOk (b : Brd) (s : Stt) : Prop where
  gb : GB b
  turn : 0 ≤ s.turn ∧ s.turn ≤ b.r.turns
  wea : 0 ≤ s.wea ∧ s.wea ≤ 2
  len : s.un.length ≤ 12
  un : ∀ u ∈ s.un, UnOk b u
  stk : stk b.r.stack s.un

theorem StOk.of {b : Brd} {s : Stt} (ho : b.Ok) (h : (okBrd b && okSt b s) = true) : StOk b s := by
  simp only [okSt, Bool.and_eq_true] at h
  obtain ⟨h0, ⟨⟨⟨h1, h2⟩, h3⟩, h4⟩, h5⟩ := h
  have g := GB.of ho h0
  exact ⟨g, of_decide_eq_true h1, of_decide_eq_true h2, of_decide_eq_true h3, fun u hu => UnOk.of g (List.all_eq_true.1 h4 u hu), of_decide_eq_true h5⟩

theorem StOk.side {b : Brd} {s : Stt} (h : StOk b s) {k : Nat} (hk : k < s.un.length) : (s.un.getD k Unt.d).side = 0 ∨ (s.un.getD k Unt.d).side = 1 := by
  refine (h.un _ ?_).side
  have := getD_memT (l := s.un) (d := Unt.d) (i := (k : Int)) (by omega) (by omega)
  rwa [Int.toNat_natCast] at this

theorem ownR_spec (i : Int) (us : List Unt) : ((∀ k, k < us.length → (us.getD k Unt.d).at' ≠ i) ∧ ownR i us = -1) ∨ ∃ k, k < us.length ∧ (us.getD k Unt.d).at' = i ∧ (us.getD k Unt.d).side = ownR i us := by
  induction us with
  | nil => exact .inl ⟨fun k hk => by simp at hk, rfl⟩
  | cons u l ih =>
    by_cases e : u.at' = i
    · exact .inr ⟨0, by simp, by simpa using e, by rw [ownR, if_pos (by simpa using e)]; simp⟩
    · rw [ownR, if_neg (by simpa using e)]
      rcases ih with ⟨h1, h2⟩ | ⟨k, h1, h2, h3⟩
      · refine .inl ⟨fun k hk => ?_, h2⟩
        cases k with
        | zero => simpa using e
        | succ k => simpa using h1 k (by simpa using hk)
      · exact .inr ⟨k + 1, by simpa using h1, by simpa using h2, by simpa using h3⟩

theorem StOk.own {b : Brd} {s : Stt} (h : StOk b s) (i : Int) : ownR i s.un = -1 ∨ ownR i s.un = 0 ∨ ownR i s.un = 1 := by
  rcases ownR_spec i s.un with ⟨_, e⟩ | ⟨k, h1, _, h3⟩
  · exact .inl e
  · have := h.side h1
    omega

/-- y is the best of the first t places: none if -1 -/
def bestI (L : List Int) (D : List Bool) (y t : Int) : Prop :=
  (y = -1 ∧ ∀ j : Nat, (j : Int) < t → D.getD j false = false → L.getD j 0 < 0) ∨
  (0 ≤ y ∧ y < t ∧ D.getD y.toNat false = false ∧ 0 ≤ L.getD y.toNat 0 ∧ ∀ j : Nat, (j : Int) < t → D.getD j false = false → 0 ≤ L.getD j 0 → L.getD y.toNat 0 ≤ L.getD j 0)

theorem bestI.take {L : List Int} {D : List Bool} {y t : Int} (h : bestI L D y t) (h0 : 0 ≤ t) (h1 : D.getD t.toNat false = false) (h2 : L.getD t.toNat 0 ≥ 0) (h3 : y < 0 ∨ L.getD t.toNat 0 < L.getD y.toNat 0) : bestI L D t (t + 1) := by
  refine .inr ⟨h0, by omega, h1, h2, fun j hj hD hp => ?_⟩
  by_cases e : (j : Int) = t
  · rw [show t.toNat = j by omega]; exact Int.le_refl _
  · rcases h with h | ⟨a, _, _, _, c⟩
    · have := h.2 j (by omega) hD; omega
    · have := c j (by omega) hD hp
      omega

theorem rwU_nil (g : Nat → Nat → Cell) : RowEq ⟨false, 4, 0, g⟩ (rwU []) := ⟨rfl, rfl, rfl, fun i j hi _ => by simp at hi⟩

abbrev nS (t w : Int) : V := .agg [cI t, cI w, .ro 4 0 nog]

abbrev oS (r : Stt) : V := .agg [cI r.turn, cI r.wea, .own 2 r.un.length]

theorem nil3 (t w : Int) : LkL [cI t, cI w, .ro 4 0 nog] (Stt.cs ⟨t, w, []⟩) := And.intro (Or.inl ⟨rfl, rfl⟩) (And.intro (Or.inl ⟨rfl, rfl⟩) (And.intro (Or.inr ⟨_, _, _, rfl, rfl⟩) trivial))

theorem Sm0 (t w : Int) : (⟨t, w, []⟩ : Stt).Sm := ⟨by show List.length [] ≤ _; simp⟩

theorem F_eqState0 (t w : Int) : Fun E0 9 [nS t w, nS t w] [] (.v (vB true)) [] [] :=
  FunLk (F_eqState ⟨t, w, []⟩ (Sm0 t w)) (And.intro (nil3 t w) (And.intro (nil3 t w) trivial))

theorem F_heldState0 (t w k : Int) (h0 : 0 ≤ k) (hk : k ≤ 1152921504606846976) : Fun E0 13 [nS t w, vI k] [] (.v (vI k)) [] [] := by
  have h := F_heldState ⟨t, w, []⟩ k (Sm0 t w) h0 hk
  have e : k + 4 * (([] : List Unt).length : Int) = k := by simp
  rw [e] at h
  exact FunLk h (And.intro (And.intro (Or.inl ⟨rfl, rfl⟩) (And.intro (Or.inl ⟨rfl, rfl⟩) (And.intro (Or.inr ⟨_, _, _, rfl, rfl⟩) trivial))) (And.intro (Or.inl ⟨rfl, rfl⟩) trivial))

theorem F_markUnitS0 (k : Int) : Fun E0 35 [.one (.ro 4 0 nog), vI k] [] (.v (vI k)) [] [] := by
  refine Fun_of_xc k35 rfl rfl nrN ?_
  ((conv=>whnf);repeat((first|refine Ct ‹_› ?_|refine Cf ‹_› ?_|refine Ct rfl ?_|refine Cf rfl ?_|refine Bi rfl ?_|refine Bz rfl ?_|refine Lr ?_);conv=>whnf))
  refine WLoop_v ⟨[0, 1, 5], [], []⟩ (fun _ : Unit => hdS 41 [(0, .v (.one (.ro 4 0 nog))), (1, .v (vI k)), (5, .v (vI 0))] [] []) (fun n _ => True) 0 () rfl trivial ?_
  rintro n _ _
  ((conv=>whnf);repeat((first|refine Ct ‹_› ?_|refine Cf ‹_› ?_|refine Ct rfl ?_|refine Cf rfl ?_|refine Bi rfl ?_|refine Bz rfl ?_|refine Lr ?_);conv=>whnf))
  exact ⟨rfl, rfl, rfl⟩

theorem F_markState0 (t w k : Int) : Fun E0 12 [nS t w, vI k] [] (.v (vI k)) [] [] := by
  refine Fun_of_xc k12 rfl rfl nrN ?_
  ((conv=>whnf);repeat((first|refine Ct ‹_› ?_|refine Cf ‹_› ?_|refine Ct rfl ?_|refine Cf rfl ?_|refine Bi rfl ?_|refine Bz rfl ?_|refine Lr ?_);conv=>whnf))
  (refine CallR_some (F_markUnitS0 k) (by repeat (first | exact trivial | refine ⟨rfl, rfl, rfl, rfl, ?_⟩)) ?_ ?_ ?_ ?_; rfl; rfl; rfl); ((conv=>whnf);repeat((first|refine Ct ‹_› ?_|refine Cf ‹_› ?_|refine Ct rfl ?_|refine Cf rfl ?_|refine Bi rfl ?_|refine Bz rfl ?_|refine Lr ?_);conv=>whnf))
  exact ⟨rfl, rfl, rfl⟩

/-- a state that comes back, and whether all is well -/
abbrev zR (t w : Int) (ok : Bool) : T := .tup [nS t w, vB ok]

abbrev oR (r : Stt) (ok : Bool) : T := .tup [oS r, vB ok]

structure HxB (q r : Int) : Prop where
  q : 0 ≤ q ∧ q ≤ 9
  r : 0 ≤ r ∧ r ≤ 9

structure PtB (q r n : Int) : Prop where
  n : 1 ≤ n ∧ n ≤ 18
  q : 0 ≤ q ∧ q ≤ 1000
  r : 0 ≤ r ∧ r ≤ 1000

/-! ### a place to meet -/
def betM (L L' : List Int) (x y : Int) : Prop := max (L.getD x.toNat 0) (L'.getD x.toNat 0) < max (L.getD y.toNat 0) (L'.getD y.toNat 0) ∨ (max (L.getD x.toNat 0) (L'.getD x.toNat 0) = max (L.getD y.toNat 0) (L'.getD y.toNat 0) ∧ L.getD x.toNat 0 + L'.getD x.toNat 0 < L.getD y.toNat 0 + L'.getD y.toNat 0)

instance (L L' : List Int) (x y : Int) : Decidable (betM L L' x y) := by unfold betM; infer_instance

def okKi (b : Brd) (k i : Int) : Bool := okBrd b && In k 0 (b.r.knd.length - 1) && In i 0 (b.m.w * b.m.h - 1)

structure KiOk (b : Brd) (k i : Int) : Prop where
  gb : GB b
  k : 0 ≤ k ∧ k < b.r.knd.length
  i : 0 ≤ i ∧ i < b.m.ter.length

theorem KiOk.of {b : Brd} (ho : b.Ok) {k i : Int} (h : okKi b k i = true) : KiOk b k i := by
  simp only [okKi, Bool.and_eq_true] at h
  have g := GB.of ho h.1.1
  have a2 := of_decide_eq_true h.1.2
  have a3 := of_decide_eq_true h.2
  have := g.n
  exact ⟨g, by omega, by omega⟩

def okKd (b : Brd) (k : Int) : Bool := okBrd b && In k 0 (b.r.knd.length - 1)

structure KdOk (b : Brd) (k : Int) : Prop where
  gb : GB b
  k : 0 ≤ k ∧ k < b.r.knd.length

theorem KdOk.of {b : Brd} (ho : b.Ok) {k : Int} (h : okKd b k = true) : KdOk b k := by
  simp only [okKd, Bool.and_eq_true] at h
  have a2 := of_decide_eq_true h.2
  exact ⟨GB.of ho h.1, by omega⟩

/-! ### ways and paths -/
theorem Wy.zero {g : Int → Int → Prop} {op : Int → Bool} {S : Int → Prop} {k c : Int} (h : Wy g op S k c) (hc : c = 0) : S k := by
  cases h with
  | src hs => exact hs
  | step h1 _ _ => have := h1.pos; omega

structure SpD (N : Nat) (g : Int → Int → Prop) (op : Int → Bool) (S : Int → Prop) (a : Int) (L B : List Int) (n : Int) : Prop where
  hL : DstS N g op S L
  hB : DstS N g op (fun k => k = a) B
  sym : ∀ j k, g j k → g k j
  gb : ∀ j k, g j k → (0 ≤ j ∧ j < N)
  so : ∀ k, S k → op k = true
  sb : ∀ k, S k → 0 ≤ k ∧ k < N
  ab : 0 ≤ a ∧ a < N
  n0 : 0 ≤ n
  hn : L.getD a.toNat 0 = n
namespace SpD

variable {N : Nat} {g : Int → Int → Prop} {op : Int → Bool} {S : Int → Prop} {a n : Int} {L B : List Int}

theorem wB (h : SpD N g op S a L B n) {k : Int} (hk : 0 ≤ k ∧ k < N) (h0 : 0 ≤ B.getD k.toNat 0) : Wy g op (fun y => y = a) k (B.getD k.toNat 0) := by
  have := h.hB.snd k.toNat (by omega) h0
  rwa [show ((k.toNat : Nat) : Int) = k by omega] at this

theorem lB (h : SpD N g op S a L B n) {k c : Int} (hk : 0 ≤ k ∧ k < N) (hw : Wy g op (fun y => y = a) k c) : 0 ≤ B.getD k.toNat 0 ∧ B.getD k.toNat 0 ≤ c :=
  h.hB.lst k.toNat c (by omega) (by rwa [show ((k.toNat : Nat) : Int) = k by omega])

theorem b0 (h : SpD N g op S a L B n) {k : Int} (hk : 0 ≤ k ∧ k < N) : B.getD k.toNat 0 = 0 ↔ k = a := by
  constructor
  · intro e; exact (h.wB hk (by omega)).zero e
  · intro e
    have := h.lB hk (.src e)
    omega

end SpD

theorem snapP (tu we : Int) (us : List Unt) {N : Nat} (hN : us.length = N) (b : Brd) : [V.agg b.cs, V.agg [cI tu, cI we, .ro 4 N fun i j => toRo (nth (us.getD i Unt.d).cs j)]] = [V.agg b.cs, V.agg (Stt.cs ⟨tu, we, us⟩)] := by
  subst hN
  have e : (fun i j => toRo (nth (us.getD i Unt.d).cs j)) = fun i j => nth (us.getD i Unt.d).cs j := by
    funext i j; rw [toRo_nth]; rfl
  rw [e]

def dgT (n : Int) : ByteArray := ⟨(Lib.decDigits n.toNat).toArray⟩

theorem dgT_1 {n : Int} (h0 : 0 ≤ n) (h1 : n < 10) : dgT n = ⟨#[UInt8.ofNat (48 + n.toNat)]⟩ := by
  unfold dgT
  rw [Lib.decDigits, dif_pos (by omega)]

theorem dgT_2 {n : Int} (h0 : 10 ≤ n) : dgT n = dgT (n / 10) ++ ⟨#[UInt8.ofNat (48 + (n % 10).toNat)]⟩ := by
  unfold dgT
  rw [Lib.decDigits, dif_neg (by omega), show n.toNat / 10 = (n / 10).toNat by omega, show n.toNat % 10 = (n % 10).toNat by omega]
  apply ByteArray.ext
  simp

theorem u8_dg {n : Int} (h0 : 0 ≤ n) (h1 : n < 10) : IntKind.u8.wrap (48 + n) = ((UInt8.ofNat (48 + n.toNat)).toNat : Int) := by
  rw [UInt8.toNat_ofNat']
  unfold IntKind.wrap
  simp [IntKind.bits, IntKind.signed]
  omega

theorem F_l1Num1 (n : Int) (h0 : 0 ≤ n) (h1 : n < 10) : Fun E0 92 [vI n] [] (.v (vS (dgT n))) [] [] := by
  rw [dgT_1 h0 h1]
  refine Fun_of_xc k92 rfl rfl (fun k q h => by cases h) ?_
  ((conv=>whnf);repeat((first|refine Ct ‹_› ?_|refine Cf ‹_› ?_|refine Ct rfl ?_|refine Cf rfl ?_|refine Bi rfl ?_|refine Bz rfl ?_|refine Lr ?_);conv=>whnf))
  refine Cnd_t (decide_eq_true h1) ?_
  ((conv=>whnf);repeat((first|refine Ct ‹_› ?_|refine Cf ‹_› ?_|refine Ct rfl ?_|refine Cf rfl ?_|refine Bi rfl ?_|refine Bz rfl ?_|refine Lr ?_);conv=>whnf))
  refine Rw_self ?_
  ((conv=>whnf);repeat((first|refine Ct ‹_› ?_|refine Cf ‹_› ?_|refine Ct rfl ?_|refine Cf rfl ?_|refine Bi rfl ?_|refine Bz rfl ?_|refine Lr ?_);conv=>whnf))
  refine Bts_i [UInt8.ofNat (48 + n.toNat)] (by simp) rfl (fun i b hb => ?_) ?_
  · have hi : i = 0 := by have := (List.getElem?_eq_some_iff.1 hb).1; simpa using this
    subst hi
    have hb : UInt8.ofNat (48 + n.toNat) = b := by simpa using hb
    show Cell.int .u8 (IntKind.u8.wrap (IntKind.i64.wrap (48 + n))) = _
    rw [← hb, wrapI (by omega)]
    have e : IntKind.u8.wrap (48 + n) = ((UInt8.ofNat (48 + n.toNat)).toNat : Int) := by
      rw [UInt8.toNat_ofNat']
      unfold IntKind.wrap
      simp [IntKind.bits, IntKind.signed]
      omega
    rw [e]
  ((conv=>whnf);repeat((first|refine Ct ‹_› ?_|refine Cf ‹_› ?_|refine Ct rfl ?_|refine Cf rfl ?_|refine Bi rfl ?_|refine Bz rfl ?_|refine Lr ?_);conv=>whnf))
  exact ⟨rfl, rfl, rfl⟩

theorem F_l1Num2 (n : Int) (h0 : 10 ≤ n) (h1 : n < 100) : Fun E0 92 [vI n] [] (.v (vS (dgT n))) [] [] := by
  rw [dgT_2 h0]
  refine Fun_of_xc k92 rfl rfl (fun k q h => by cases h) ?_
  ((conv=>whnf);repeat((first|refine Ct ‹_› ?_|refine Cf ‹_› ?_|refine Ct rfl ?_|refine Cf rfl ?_|refine Bi rfl ?_|refine Bz rfl ?_|refine Lr ?_);conv=>whnf))
  refine Cnd_f (decide_eq_false (by omega)) ?_
  ((conv=>whnf);repeat((first|refine Ct ‹_› ?_|refine Cf ‹_› ?_|refine Ct rfl ?_|refine Cf rfl ?_|refine Bi rfl ?_|refine Bz rfl ?_|refine Lr ?_);conv=>whnf))
  refine CallQ_eq (show _ = [vI (n / 10)] by rw [Int.tdiv_eq_ediv_of_nonneg (by omega), wrapI (by omega)]) ?_
  (refine CallQ_some (F_l1Num1 (n / 10) (by omega) (by omega)) ?_ ?_ ?_; rfl; rfl); ((conv=>whnf);repeat((first|refine Ct ‹_› ?_|refine Cf ‹_› ?_|refine Ct rfl ?_|refine Cf rfl ?_|refine Bi rfl ?_|refine Bz rfl ?_|refine Lr ?_);conv=>whnf))
  refine Rw_self ?_
  ((conv=>whnf);repeat((first|refine Ct ‹_› ?_|refine Cf ‹_› ?_|refine Ct rfl ?_|refine Cf rfl ?_|refine Bi rfl ?_|refine Bz rfl ?_|refine Lr ?_);conv=>whnf))
  refine Bts_i [UInt8.ofNat (48 + (n % 10).toNat)] (by simp) rfl (fun i b hb => ?_) ?_
  · have hi : i = 0 := by have := (List.getElem?_eq_some_iff.1 hb).1; simpa using this
    subst hi
    have hb : UInt8.ofNat (48 + (n % 10).toNat) = b := by simpa using hb
    show Cell.int .u8 (IntKind.u8.wrap (IntKind.i64.wrap (48 + n.tmod 10))) = _
    rw [Int.tmod_eq_emod_of_nonneg (by omega)]
    rw [← hb, wrapI (by omega), u8_dg (by omega) (by omega)]
  ((conv=>whnf);repeat((first|refine Ct ‹_› ?_|refine Cf ‹_› ?_|refine Ct rfl ?_|refine Cf rfl ?_|refine Bi rfl ?_|refine Bz rfl ?_|refine Lr ?_);conv=>whnf))
  refine Bnd_i ?_ ?_
  · rw [dgT_1 (show 0 ≤ n / 10 by omega) (by omega)]
    show 1 + 1 < 4611686018427387904
    omega
  ((conv=>whnf);repeat((first|refine Ct ‹_› ?_|refine Cf ‹_› ?_|refine Ct rfl ?_|refine Cf rfl ?_|refine Bi rfl ?_|refine Bz rfl ?_|refine Lr ?_);conv=>whnf))
  exact ⟨rfl, rfl, rfl⟩

theorem F_Itoa (n : Int) (h0 : 0 ≤ n) (h1 : n < 100) : Fun E0 65 [vI n] [] (.v (vS (dgT n))) [] [] := by
  refine Fun_intStr (by kernel_rfl) (fun w => ?_)
  have h := Any.strconv_Itoa_small Tryz.lays171 n.toNat (by omega) w
  rw [show ((n.toNat : Nat) : Int) = n by omega] at h
  exact h

theorem F_Join (xs : List ByteArray) (sep : ByteArray) (h0 : 0 < xs.length) (hN : xs.length ≤ 140737488355328) (hl : (Lib.join (xs.map (·.data.toList)) sep.data.toList).length ≤ 281474976710656) :
    Fun E0 110 [.one (.ro 1 xs.length fun i _ => .str (xs.getD i ⟨#[]⟩)), vS sep] [] (.v (vS ⟨(Lib.join (xs.map (·.data.toList)) sep.data.toList).toArray⟩)) [] [] :=
  Fun_join (by kernel_rfl) h0 (fun bk o c w h1 h2 h3 => Any.strings_Join_48 Tryz.lays156 Tryz.ex156 bk o c xs sep w h1 h2 hN h3 hl)

theorem F_l1Num (n : Int) (h0 : 0 ≤ n) (h1 : n < 100) : Fun E0 92 [vI n] [] (.v (vS (dgT n))) [] [] := by
  by_cases h : n < 10
  · exact F_l1Num1 n h0 h
  · exact F_l1Num2 n (by omega) h1

theorem dgT_size {n : Int} (h0 : 0 ≤ n) (h1 : n < 100) : (dgT n).size ≤ 2 := by
  by_cases h : n < 10
  · rw [dgT_1 h0 h]; show 1 ≤ 2; omega
  · rw [dgT_2 (by omega), dgT_1 (by omega) (by omega)]
    rw [ByteArray.size_append]
    show 1 + 1 ≤ 2
    omega

def atT (n : Int) : ByteArray := if n < 0 then ⟨#[45]⟩ else dgT n

theorem atT_size {n : Int} (h1 : n < 100) : (atT n).size ≤ 2 := by
  unfold atT
  by_cases h : n < 0
  · rw [if_pos h]; show 1 ≤ 2; omega
  · rw [if_neg h]; exact dgT_size (by omega) h1

theorem F_placeText (n : Int) (h : n < 100) : Fun E0 71 [vI n] [] (.v (vS (atT n))) [] [] := by
  refine Fun_of_xc k71 rfl rfl (fun k q h => by cases h) ?_
  ((conv=>whnf);repeat((first|refine Ct ‹_› ?_|refine Cf ‹_› ?_|refine Ct rfl ?_|refine Cf rfl ?_|refine Bi rfl ?_|refine Bz rfl ?_|refine Lr ?_);conv=>whnf))
  refine Cnd_i (fun g => ?_) (fun g => ?_)
  · have d := of_decide_eq_true g
    ((conv=>whnf);repeat((first|refine Ct ‹_› ?_|refine Cf ‹_› ?_|refine Ct rfl ?_|refine Cf rfl ?_|refine Bi rfl ?_|refine Bz rfl ?_|refine Lr ?_);conv=>whnf))
    rw [atT, if_pos d]
    exact ⟨rfl, rfl, rfl⟩
  · have d := of_decide_eq_false g
    ((conv=>whnf);repeat((first|refine Ct ‹_› ?_|refine Cf ‹_› ?_|refine Ct rfl ?_|refine Cf rfl ?_|refine Bi rfl ?_|refine Bz rfl ?_|refine Lr ?_);conv=>whnf))
    (refine CallQ_some (F_Itoa n (by omega) h) ?_ ?_ ?_; rfl; rfl); ((conv=>whnf);repeat((first|refine Ct ‹_› ?_|refine Cf ‹_› ?_|refine Ct rfl ?_|refine Cf rfl ?_|refine Bi rfl ?_|refine Bz rfl ?_|refine Lr ?_);conv=>whnf))
    rw [atT, if_neg d]
    exact ⟨rfl, rfl, rfl⟩

abbrev rwS (l : List ByteArray) : Row := ⟨false, 1, l.length, fun i _ => .str (l.getD i ⟨#[]⟩)⟩

theorem rwS_app (l : List ByteArray) (x : ByteArray) (g : Nat → Nat → Cell) (h : g 0 0 = .str x) : RowEq (appRow (rwS l) 1 g) (rwS (l ++ [x])) := by
  refine ⟨rfl, rfl, by simp [appRow], fun i j hi hj => ?_⟩
  have hj : j < 1 := hj
  obtain rfl : j = 0 := by omega
  have hi : i < l.length + 1 := hi
  show (bif Nat.blt i l.length then Cell.str (l.getD i ⟨#[]⟩) else g (i - l.length) 0) = Cell.str ((l ++ [x]).getD i ⟨#[]⟩)
  by_cases e : i < l.length
  · have : Nat.blt i l.length = true := by simpa [Nat.blt_eq] using e
    rw [this]
    simp [List.getElem?_append, e]
  · have : Nat.blt i l.length = false := by
      rw [Bool.eq_false_iff]; intro h; exact e (by simpa [Nat.blt_eq] using h)
    rw [this, show i = l.length by omega]
    simp [h]

def wdT (w : ByteArray) (n : Int) : ByteArray := w ++ ⟨#[32]⟩ ++ dgT n

theorem join2 (a b c : ByteArray) : (⟨(Lib.join ([a, b].map (·.data.toList)) c.data.toList).toArray⟩ : ByteArray) = a ++ c ++ b := by
  apply ByteArray.ext
  simp [Lib.join]

theorem F_wordsText (w : ByteArray) (n : Int) (hw : w.size ≤ 100) (h0 : 0 ≤ n) (h1 : n < 100) : Fun E0 70 [vS w, .one (.ro 1 1 fun _ _ => cI n)] [] (.v (vS (wdT w n))) [] [] := by
  refine Fun_of_xc k70 rfl rfl (fun k q h => by cases h) ?_
  ((conv=>whnf);repeat((first|refine Ct ‹_› ?_|refine Cf ‹_› ?_|refine Ct rfl ?_|refine Cf rfl ?_|refine Bi rfl ?_|refine Bz rfl ?_|refine Lr ?_);conv=>whnf))
  refine Rw_i (rwS [w]) ⟨rfl, rfl, rfl, fun i j hi hj => ?_⟩ ?_
  · have hi : i < 1 := hi
    have hj : j < 1 := hj
    obtain rfl : i = 0 := by omega
    obtain rfl : j = 0 := by omega
    rfl
  ((conv=>whnf);repeat((first|refine Ct ‹_› ?_|refine Cf ‹_› ?_|refine Ct rfl ?_|refine Cf rfl ?_|refine Bi rfl ?_|refine Bz rfl ?_|refine Lr ?_);conv=>whnf))
  refine WLoop_v2 ⟨[5, 10, 11, 12], [], []⟩ (fun (t : Int) (out : List ByteArray) => hdS 24 [(5, .v (.one (.own (vkey 5) out.length))), (10, .v (.one (.ro 1 1 fun _ _ => cI n))), (11, .v (vI 1)), (12, .v (vI t))] [] [(vkey 5, rwS out)])
    (fun m t out => 0 ≤ t ∧ t + m = 1 ∧ out = if t = 0 then [w] else [w, dgT n]) 1 0 [w] rfl ⟨by omega, by omega, rfl⟩ ?_
  rintro m t out ⟨a1, a2, a3⟩
  ((conv=>whnf);repeat((first|refine Ct ‹_› ?_|refine Cf ‹_› ?_|refine Ct rfl ?_|refine Cf rfl ?_|refine Bi rfl ?_|refine Bz rfl ?_|refine Lr ?_);conv=>whnf))
  refine Cnd_i (fun g => ?_) (fun g => ?_)
  · have ht := of_decide_eq_true g
    obtain rfl : t = 0 := by omega
    obtain rfl : out = [w] := a3
    ((conv=>whnf);repeat((first|refine Ct ‹_› ?_|refine Cf ‹_› ?_|refine Ct rfl ?_|refine Cf rfl ?_|refine Bi rfl ?_|refine Bz rfl ?_|refine Lr ?_);conv=>whnf))
    refine Bnd_i (⟨a1, ht⟩) ?_; ((conv=>whnf);repeat((first|refine Ct ‹_› ?_|refine Cf ‹_› ?_|refine Ct rfl ?_|refine Cf rfl ?_|refine Bi rfl ?_|refine Bz rfl ?_|refine Lr ?_);conv=>whnf))
    (refine CallQ_some (F_Itoa n h0 h1) ?_ ?_ ?_; rfl; rfl); ((conv=>whnf);repeat((first|refine Ct ‹_› ?_|refine Cf ‹_› ?_|refine Ct rfl ?_|refine Cf rfl ?_|refine Bi rfl ?_|refine Bz rfl ?_|refine Lr ?_);conv=>whnf))
    refine Rw_self ?_
    ((conv=>whnf);repeat((first|refine Ct ‹_› ?_|refine Cf ‹_› ?_|refine Ct rfl ?_|refine Cf rfl ?_|refine Bi rfl ?_|refine Bz rfl ?_|refine Lr ?_);conv=>whnf))
    refine Bnd_i (by show 1 + 1 < _; omega) ?_
    ((conv=>whnf);repeat((first|refine Ct ‹_› ?_|refine Cf ‹_› ?_|refine Ct rfl ?_|refine Cf rfl ?_|refine Bi rfl ?_|refine Bz rfl ?_|refine Lr ?_);conv=>whnf))
    refine Rw_i (rwS ([w] ++ [dgT n])) (rwS_app _ _ _ rfl) ?_
    ((conv=>whnf);repeat((first|refine Ct ‹_› ?_|refine Cf ‹_› ?_|refine Ct rfl ?_|refine Cf rfl ?_|refine Bi rfl ?_|refine Bz rfl ?_|refine Lr ?_);conv=>whnf))
    refine ⟨m - 1, 1, [w, dgT n], ?_, by omega, by omega, by omega, rfl⟩
    rfl
  · have ht := of_decide_eq_false g
    obtain rfl : t = 1 := by omega
    obtain rfl : out = [w, dgT n] := a3
    ((conv=>whnf);repeat((first|refine Ct ‹_› ?_|refine Cf ‹_› ?_|refine Ct rfl ?_|refine Cf rfl ?_|refine Bi rfl ?_|refine Bz rfl ?_|refine Lr ?_);conv=>whnf))
    have hd := dgT_size h0 h1
    (refine CallQ_some (F_Join [w, dgT n] ⟨#[32]⟩ (by show 0 < 2; omega) (by show 2 ≤ _; omega) (by rw [show (Lib.join ([w, dgT n].map (·.data.toList)) (ByteArray.mk #[32]).data.toList) = (w ++ ⟨#[32]⟩ ++ dgT n).data.toList by rw [← join2], Array.length_toList]; show (w ++ ⟨#[32]⟩ ++ dgT n).size ≤ _; rw [ByteArray.size_append, ByteArray.size_append]; show w.size + 1 + _ ≤ _; omega)) ?_ ?_ ?_; rfl; rfl); ((conv=>whnf);repeat((first|refine Ct ‹_› ?_|refine Cf ‹_› ?_|refine Ct rfl ?_|refine Cf rfl ?_|refine Bi rfl ?_|refine Bz rfl ?_|refine Lr ?_);conv=>whnf))
    rw [join2]
    exact ⟨rfl, rfl, rfl⟩

abbrev sp1 : ByteArray := ⟨#[32]⟩

abbrev nl1 : ByteArray := ⟨#[10]⟩

def uT (b : Brd) (u : Unt) : ByteArray := dgT u.side ++ sp1 ++ (b.r.knd.getD u.kind.toNat Knd.d).name ++ sp1 ++ atT u.at' ++ sp1 ++ dgT u.ste ++ nl1

def hT (s : Stt) : ByteArray := ⟨#[116, 117, 114, 110, 32]⟩ ++ dgT s.turn ++ ⟨#[32, 119, 101, 97, 116, 104, 101, 114, 32]⟩ ++ dgT s.wea ++ nl1

def usT (b : Brd) : ByteArray → List Unt → ByteArray
  | o, [] => o
  | o, u :: us => usT b (o ++ uT b u) us

def stT (b : Brd) (s : Stt) : ByteArray := usT b (hT s) s.un

theorem usT_app (b : Brd) (u : Unt) : ∀ (us : List Unt) (o : ByteArray), usT b o (us ++ [u]) = usT b o us ++ uT b u
  | [], _ => rfl
  | _ :: us, o => usT_app b u us _

theorem usT_take (b : Brd) (o : ByteArray) (us : List Unt) (t : Nat) (ht : t < us.length) : usT b o (us.take (t + 1)) = usT b o (us.take t) ++ uT b (us.getD t Unt.d) := by
  rw [List.take_succ_eq_append_getElem ht, usT_app]
  congr 2
  rw [List.getD_eq_getElem?_getD, List.getElem?_eq_getElem ht]
  rfl

theorem okName_size {s : ByteArray} (h : okName s = true) : s.size ≤ 8 := by
  rw [okName, Bool.and_eq_true] at h
  have := of_decide_eq_true h.2
  omega

theorem knd_name {b : Brd} (h : GB b) {k : Int} (h0 : 0 ≤ k) (h1 : k < b.r.knd.length) : (b.r.knd.getD k.toNat Knd.d).name.size ≤ 8 ∧ (b.r.knd.getD k.toNat Knd.d).ste ≤ 4 := by
  have hm := h.knd _ (getD_memT (d := Knd.d) h0 h1)
  simp only [okKnd, Bool.and_eq_true] at hm
  obtain ⟨⟨⟨⟨a1, a2⟩, a3⟩, a4⟩, a5⟩ := hm
  exact ⟨okName_size a1, (of_decide_eq_true a4).2⟩

structure UnS (b : Brd) (u : Unt) : Prop where
  side : 0 ≤ u.side ∧ u.side < 100
  kind : 0 ≤ u.kind ∧ u.kind < b.r.knd.length
  ste : 0 ≤ u.ste ∧ u.ste < 100
  at' : u.at' < 100
  at1 : -1 ≤ u.at'
  nam : (b.r.knd.getD u.kind.toNat Knd.d).name.size ≤ 8

theorem UnS.of {b : Brd} (h : GB b) {u : Unt} (hu : UnOk b u) : UnS b u := by
  have h1 := hu.side
  have h2 := hu.kind
  have h3 := hu.ste
  have h4 := hu.at'
  have h5 := knd_name h h2.1 h2.2
  have h6 := h.n
  have h7 := h.wh.mul
  exact ⟨by omega, h2, by omega, by omega, by omega, h5.1⟩

theorem szA {a b : ByteArray} {m n : Nat} (ha : a.size ≤ m) (hb : b.size ≤ n) : (a ++ b).size ≤ m + n := by
  rw [ByteArray.size_append]; omega

theorem bss {a b : ByteArray} {m n : Nat} (ha : a.size ≤ m) (hb : b.size ≤ n) (h : Nat.blt (m + n) 4611686018427387904 = true) : a.size + b.size < 4611686018427387904 := by
  have h : m + n < 4611686018427387904 := by simpa [Nat.blt_eq] using h
  omega

theorem uT_size {b : Brd} {u : Unt} (h : UnS b u) : (uT b u).size ≤ 20 := by
  have h1 := dgT_size h.side.1 h.side.2
  have h2 := dgT_size h.ste.1 h.ste.2
  have h3 := atT_size h.at'
  have h4 := h.nam
  unfold uT
  simp only [ByteArray.size_append]
  show _ + 1 + _ + 1 + _ + 1 + _ + 1 ≤ 20
  omega

theorem hT_size {s : Stt} (h1 : 0 ≤ s.turn) (h2 : s.turn < 100) (h3 : 0 ≤ s.wea) (h4 : s.wea < 100) : (hT s).size ≤ 20 := by
  have a1 := dgT_size h1 h2
  have a2 := dgT_size h3 h4
  unfold hT
  simp only [ByteArray.size_append]
  show 5 + _ + 9 + _ + 1 ≤ 20
  omega

theorem wdT_size {w : ByteArray} {n : Int} {a d : Nat} (hw : w.size ≤ a) (hd : (dgT n).size ≤ d) : (wdT w n).size ≤ a + 1 + d := szA (szA hw (Nat.le_refl _)) hd

theorem hT_of (s : Stt) : wdT ⟨#[116, 117, 114, 110]⟩ s.turn ++ sp1 ++ wdT ⟨#[119, 101, 97, 116, 104, 101, 114]⟩ s.wea ++ nl1 = hT s := by
  have e1 : (⟨#[116, 117, 114, 110, 32]⟩ : ByteArray) = ⟨#[116, 117, 114, 110]⟩ ++ ⟨#[32]⟩ := rfl
  have e2 : (⟨#[32, 119, 101, 97, 116, 104, 101, 114, 32]⟩ : ByteArray) = ⟨#[32]⟩ ++ (⟨#[119, 101, 97, 116, 104, 101, 114]⟩ ++ ⟨#[32]⟩) := rfl
  rw [wdT, wdT, hT, e1, e2]
  simp only [ByteArray.append_assoc]

theorem F_sText (b : Brd) (ho : b.Ok) (s : Stt) (hs : s.Ok) (h : StOk b s) : Fun E0 55 [.agg b.cs, .agg s.cs] [] (.v (vS (stT b s))) [] [] := by
  have ht := h.turn
  have hw := h.wea
  have hnu := h.gb.nums
  simp only [numsOk, Bool.and_eq_true] at hnu
  have htu := of_decide_eq_true hnu.2
  have hl := h.len
  have d1 := dgT_size ht.1 (show s.turn < 100 by omega)
  have d2 := dgT_size hw.1 (show s.wea < 100 by omega)
  have hh := hT_size ht.1 (by omega) hw.1 (by omega)
  refine Fun_of_xc k55 rfl rfl (fun k q h => by cases h) ?_
  ((conv=>whnf);repeat((first|refine Ct ‹_› ?_|refine Cf ‹_› ?_|refine Ct rfl ?_|refine Cf rfl ?_|refine Bi rfl ?_|refine Bz rfl ?_|refine Lr ?_);conv=>whnf))
  (refine CallQ_some (F_l1Num s.turn ht.1 (by omega)) ?_ ?_ ?_; rfl; rfl); ((conv=>whnf);repeat((first|refine Ct ‹_› ?_|refine Cf ‹_› ?_|refine Ct rfl ?_|refine Cf rfl ?_|refine Bi rfl ?_|refine Bz rfl ?_|refine Lr ?_);conv=>whnf))
  refine Bnd_i (bss (Nat.le_refl _) d1 rfl) ?_; ((conv=>whnf);repeat((first|refine Ct ‹_› ?_|refine Cf ‹_› ?_|refine Ct rfl ?_|refine Cf rfl ?_|refine Bi rfl ?_|refine Bz rfl ?_|refine Lr ?_);conv=>whnf))
  refine Bnd_i (bss (szA (Nat.le_refl _) d1) (Nat.le_refl _) rfl) ?_; ((conv=>whnf);repeat((first|refine Ct ‹_› ?_|refine Cf ‹_› ?_|refine Ct rfl ?_|refine Cf rfl ?_|refine Bi rfl ?_|refine Bz rfl ?_|refine Lr ?_);conv=>whnf))
  (refine CallQ_some (F_l1Num s.wea hw.1 (by omega)) ?_ ?_ ?_; rfl; rfl); ((conv=>whnf);repeat((first|refine Ct ‹_› ?_|refine Cf ‹_› ?_|refine Ct rfl ?_|refine Cf rfl ?_|refine Bi rfl ?_|refine Bz rfl ?_|refine Lr ?_);conv=>whnf))
  refine Bnd_i (bss (szA (szA (Nat.le_refl _) d1) (Nat.le_refl _)) d2 rfl) ?_; ((conv=>whnf);repeat((first|refine Ct ‹_› ?_|refine Cf ‹_› ?_|refine Ct rfl ?_|refine Cf rfl ?_|refine Bi rfl ?_|refine Bz rfl ?_|refine Lr ?_);conv=>whnf))
  refine Bnd_i (bss (szA (szA (szA (Nat.le_refl _) d1) (Nat.le_refl _)) d2) (Nat.le_refl _) rfl) ?_; ((conv=>whnf);repeat((first|refine Ct ‹_› ?_|refine Cf ‹_› ?_|refine Ct rfl ?_|refine Cf rfl ?_|refine Bi rfl ?_|refine Bz rfl ?_|refine Lr ?_);conv=>whnf))
  refine WLoop_v2 ⟨[2, 5, 20, 21, 22], [2], []⟩ (fun (t : Int) (out : ByteArray) => hdS 58 [(2, .v (.one (.box 2 0))), (5, .v (vS out)), (20, .v (.one (roU s.un))), (21, .v (vI s.un.length)), (22, .v (vI t))] [(2, b.cs)] [])
    (fun n t out => 0 ≤ t ∧ t + n = s.un.length ∧ out = usT b (hT s) (s.un.take t.toNat) ∧ out.size ≤ 20 + 20 * t.toNat) s.un.length 0 (hT s) rfl ⟨by omega, by omega, rfl, by omega⟩ ?_
  rintro n t out ⟨h1, h2, h3, h4⟩
  ((conv=>whnf);repeat((first|refine Ct ‹_› ?_|refine Cf ‹_› ?_|refine Ct rfl ?_|refine Cf rfl ?_|refine Bi rfl ?_|refine Bz rfl ?_|refine Lr ?_);conv=>whnf))
  refine Cnd_i (fun g => ?_) (fun g => ?_)
  · have ht := of_decide_eq_true g
    have hu := UnS.of h.gb (h.un _ (getD_memT (d := Unt.d) h1 ht))
    have hz := uT_size hu
    have s1 := dgT_size hu.side.1 hu.side.2
    have s2 := dgT_size hu.ste.1 hu.ste.2
    have s3 := atT_size hu.at'
    have s4 := hu.nam
    have s5 : out.size ≤ 300 := by omega
    have hnx : usT b (hT s) (s.un.take (t + 1).toNat) = out ++ uT b (s.un.getD t.toNat Unt.d) := by
      rw [show (t + 1).toNat = t.toNat + 1 by omega, usT_take _ _ _ _ (by omega), ← h3]
    ((conv=>whnf);repeat((first|refine Ct ‹_› ?_|refine Cf ‹_› ?_|refine Ct rfl ?_|refine Cf rfl ?_|refine Bi rfl ?_|refine Bz rfl ?_|refine Lr ?_);conv=>whnf))
    refine Bnd_i (⟨h1, ht⟩) ?_; ((conv=>whnf);repeat((first|refine Ct ‹_› ?_|refine Cf ‹_› ?_|refine Ct rfl ?_|refine Cf rfl ?_|refine Bi rfl ?_|refine Bz rfl ?_|refine Lr ?_);conv=>whnf))
    refine Cnd_i (fun g2 => ?_) (fun g2 => ?_)
    · have d2 := of_decide_eq_true g2
      have ea : dgT (s.un.getD t.toNat Unt.d).at' = atT (s.un.getD t.toNat Unt.d).at' := (if_neg (by omega)).symm
      ((conv=>whnf);repeat((first|refine Ct ‹_› ?_|refine Cf ‹_› ?_|refine Ct rfl ?_|refine Cf rfl ?_|refine Bi rfl ?_|refine Bz rfl ?_|refine Lr ?_);conv=>whnf))
      (refine CallQ_some (F_l1Num (s.un.getD t.toNat Unt.d).at' d2 hu.at') ?_ ?_ ?_; rfl; rfl)
      rw [ea]
      ((conv=>whnf);repeat((first|refine Ct ‹_› ?_|refine Cf ‹_› ?_|refine Ct rfl ?_|refine Cf rfl ?_|refine Bi rfl ?_|refine Bz rfl ?_|refine Lr ?_);conv=>whnf))
      (refine CallQ_some (F_l1Num (s.un.getD t.toNat Unt.d).side hu.side.1 hu.side.2) ?_ ?_ ?_; rfl; rfl); ((conv=>whnf);repeat((first|refine Ct ‹_› ?_|refine Cf ‹_› ?_|refine Ct rfl ?_|refine Cf rfl ?_|refine Bi rfl ?_|refine Bz rfl ?_|refine Lr ?_);conv=>whnf))
      refine Bnd_i (bss s1 (Nat.le_refl _) rfl) ?_; ((conv=>whnf);repeat((first|refine Ct ‹_› ?_|refine Cf ‹_› ?_|refine Ct rfl ?_|refine Cf rfl ?_|refine Bi rfl ?_|refine Bz rfl ?_|refine Lr ?_);conv=>whnf))
      refine Bnd_i (hu.kind) ?_; ((conv=>whnf);repeat((first|refine Ct ‹_› ?_|refine Cf ‹_› ?_|refine Ct rfl ?_|refine Cf rfl ?_|refine Bi rfl ?_|refine Bz rfl ?_|refine Lr ?_);conv=>whnf))
      refine Bnd_i (bss (szA s1 (Nat.le_refl _)) s4 rfl) ?_; ((conv=>whnf);repeat((first|refine Ct ‹_› ?_|refine Cf ‹_› ?_|refine Ct rfl ?_|refine Cf rfl ?_|refine Bi rfl ?_|refine Bz rfl ?_|refine Lr ?_);conv=>whnf))
      refine Bnd_i (bss (szA (szA s1 (Nat.le_refl _)) s4) (Nat.le_refl _) rfl) ?_; ((conv=>whnf);repeat((first|refine Ct ‹_› ?_|refine Cf ‹_› ?_|refine Ct rfl ?_|refine Cf rfl ?_|refine Bi rfl ?_|refine Bz rfl ?_|refine Lr ?_);conv=>whnf))
      refine Bnd_i (bss (szA (szA (szA s1 (Nat.le_refl _)) s4) (Nat.le_refl _)) s3 rfl) ?_; ((conv=>whnf);repeat((first|refine Ct ‹_› ?_|refine Cf ‹_› ?_|refine Ct rfl ?_|refine Cf rfl ?_|refine Bi rfl ?_|refine Bz rfl ?_|refine Lr ?_);conv=>whnf))
      refine Bnd_i (bss (szA (szA (szA (szA s1 (Nat.le_refl _)) s4) (Nat.le_refl _)) s3) (Nat.le_refl _) rfl) ?_; ((conv=>whnf);repeat((first|refine Ct ‹_› ?_|refine Cf ‹_› ?_|refine Ct rfl ?_|refine Cf rfl ?_|refine Bi rfl ?_|refine Bz rfl ?_|refine Lr ?_);conv=>whnf))
      (refine CallQ_some (F_l1Num (s.un.getD t.toNat Unt.d).ste hu.ste.1 hu.ste.2) ?_ ?_ ?_; rfl; rfl); ((conv=>whnf);repeat((first|refine Ct ‹_› ?_|refine Cf ‹_› ?_|refine Ct rfl ?_|refine Cf rfl ?_|refine Bi rfl ?_|refine Bz rfl ?_|refine Lr ?_);conv=>whnf))
      refine Bnd_i (bss (szA (szA (szA (szA (szA s1 (Nat.le_refl _)) s4) (Nat.le_refl _)) s3) (Nat.le_refl _)) s2 rfl) ?_; ((conv=>whnf);repeat((first|refine Ct ‹_› ?_|refine Cf ‹_› ?_|refine Ct rfl ?_|refine Cf rfl ?_|refine Bi rfl ?_|refine Bz rfl ?_|refine Lr ?_);conv=>whnf))
      refine Bnd_i (bss (szA (szA (szA (szA (szA (szA s1 (Nat.le_refl _)) s4) (Nat.le_refl _)) s3) (Nat.le_refl _)) s2) (Nat.le_refl _) rfl) ?_; ((conv=>whnf);repeat((first|refine Ct ‹_› ?_|refine Cf ‹_› ?_|refine Ct rfl ?_|refine Cf rfl ?_|refine Bi rfl ?_|refine Bz rfl ?_|refine Lr ?_);conv=>whnf))
      refine Bnd_i (bss s5 (szA (szA (szA (szA (szA (szA (szA s1 (Nat.le_refl _)) s4) (Nat.le_refl _)) s3) (Nat.le_refl _)) s2) (Nat.le_refl _)) rfl) ?_; ((conv=>whnf);repeat((first|refine Ct ‹_› ?_|refine Cf ‹_› ?_|refine Ct rfl ?_|refine Cf rfl ?_|refine Bi rfl ?_|refine Bz rfl ?_|refine Lr ?_);conv=>whnf))
      refine ⟨n - 1, t + 1, out ++ uT b (s.un.getD t.toNat Unt.d), ?_, by omega, by omega, by omega, hnx.symm, ?_⟩
      · rw [wrapI (by omega)]; rfl
      · rw [ByteArray.size_append]; omega
    · have d2 := of_decide_eq_false g2
      have ea : (⟨#[45]⟩ : ByteArray) = atT (s.un.getD t.toNat Unt.d).at' := (if_pos (by omega)).symm
      rw [ea]
      ((conv=>whnf);repeat((first|refine Ct ‹_› ?_|refine Cf ‹_› ?_|refine Ct rfl ?_|refine Cf rfl ?_|refine Bi rfl ?_|refine Bz rfl ?_|refine Lr ?_);conv=>whnf))
      (refine CallQ_some (F_l1Num (s.un.getD t.toNat Unt.d).side hu.side.1 hu.side.2) ?_ ?_ ?_; rfl; rfl); ((conv=>whnf);repeat((first|refine Ct ‹_› ?_|refine Cf ‹_› ?_|refine Ct rfl ?_|refine Cf rfl ?_|refine Bi rfl ?_|refine Bz rfl ?_|refine Lr ?_);conv=>whnf))
      refine Bnd_i (bss s1 (Nat.le_refl _) rfl) ?_; ((conv=>whnf);repeat((first|refine Ct ‹_› ?_|refine Cf ‹_› ?_|refine Ct rfl ?_|refine Cf rfl ?_|refine Bi rfl ?_|refine Bz rfl ?_|refine Lr ?_);conv=>whnf))
      refine Bnd_i (hu.kind) ?_; ((conv=>whnf);repeat((first|refine Ct ‹_› ?_|refine Cf ‹_› ?_|refine Ct rfl ?_|refine Cf rfl ?_|refine Bi rfl ?_|refine Bz rfl ?_|refine Lr ?_);conv=>whnf))
      refine Bnd_i (bss (szA s1 (Nat.le_refl _)) s4 rfl) ?_; ((conv=>whnf);repeat((first|refine Ct ‹_› ?_|refine Cf ‹_› ?_|refine Ct rfl ?_|refine Cf rfl ?_|refine Bi rfl ?_|refine Bz rfl ?_|refine Lr ?_);conv=>whnf))
      refine Bnd_i (bss (szA (szA s1 (Nat.le_refl _)) s4) (Nat.le_refl _) rfl) ?_; ((conv=>whnf);repeat((first|refine Ct ‹_› ?_|refine Cf ‹_› ?_|refine Ct rfl ?_|refine Cf rfl ?_|refine Bi rfl ?_|refine Bz rfl ?_|refine Lr ?_);conv=>whnf))
      refine Bnd_i (bss (szA (szA (szA s1 (Nat.le_refl _)) s4) (Nat.le_refl _)) s3 rfl) ?_; ((conv=>whnf);repeat((first|refine Ct ‹_› ?_|refine Cf ‹_› ?_|refine Ct rfl ?_|refine Cf rfl ?_|refine Bi rfl ?_|refine Bz rfl ?_|refine Lr ?_);conv=>whnf))
      refine Bnd_i (bss (szA (szA (szA (szA s1 (Nat.le_refl _)) s4) (Nat.le_refl _)) s3) (Nat.le_refl _) rfl) ?_; ((conv=>whnf);repeat((first|refine Ct ‹_› ?_|refine Cf ‹_› ?_|refine Ct rfl ?_|refine Cf rfl ?_|refine Bi rfl ?_|refine Bz rfl ?_|refine Lr ?_);conv=>whnf))
      (refine CallQ_some (F_l1Num (s.un.getD t.toNat Unt.d).ste hu.ste.1 hu.ste.2) ?_ ?_ ?_; rfl; rfl); ((conv=>whnf);repeat((first|refine Ct ‹_› ?_|refine Cf ‹_› ?_|refine Ct rfl ?_|refine Cf rfl ?_|refine Bi rfl ?_|refine Bz rfl ?_|refine Lr ?_);conv=>whnf))
      refine Bnd_i (bss (szA (szA (szA (szA (szA s1 (Nat.le_refl _)) s4) (Nat.le_refl _)) s3) (Nat.le_refl _)) s2 rfl) ?_; ((conv=>whnf);repeat((first|refine Ct ‹_› ?_|refine Cf ‹_› ?_|refine Ct rfl ?_|refine Cf rfl ?_|refine Bi rfl ?_|refine Bz rfl ?_|refine Lr ?_);conv=>whnf))
      refine Bnd_i (bss (szA (szA (szA (szA (szA (szA s1 (Nat.le_refl _)) s4) (Nat.le_refl _)) s3) (Nat.le_refl _)) s2) (Nat.le_refl _) rfl) ?_; ((conv=>whnf);repeat((first|refine Ct ‹_› ?_|refine Cf ‹_› ?_|refine Ct rfl ?_|refine Cf rfl ?_|refine Bi rfl ?_|refine Bz rfl ?_|refine Lr ?_);conv=>whnf))
      refine Bnd_i (bss s5 (szA (szA (szA (szA (szA (szA (szA s1 (Nat.le_refl _)) s4) (Nat.le_refl _)) s3) (Nat.le_refl _)) s2) (Nat.le_refl _)) rfl) ?_; ((conv=>whnf);repeat((first|refine Ct ‹_› ?_|refine Cf ‹_› ?_|refine Ct rfl ?_|refine Cf rfl ?_|refine Bi rfl ?_|refine Bz rfl ?_|refine Lr ?_);conv=>whnf))
      refine ⟨n - 1, t + 1, out ++ uT b (s.un.getD t.toNat Unt.d), ?_, by omega, by omega, by omega, hnx.symm, ?_⟩
      · rw [wrapI (by omega)]; rfl
      · rw [ByteArray.size_append]; omega
  · have ht := of_decide_eq_false g
    ((conv=>whnf);repeat((first|refine Ct ‹_› ?_|refine Cf ‹_› ?_|refine Ct rfl ?_|refine Cf rfl ?_|refine Bi rfl ?_|refine Bz rfl ?_|refine Lr ?_);conv=>whnf))
    rw [h3, show t.toNat = s.un.length by omega, List.take_length]
    exact ⟨rfl, rfl, rfl⟩

theorem F_stateText (b : Brd) (ho : b.Ok) (s : Stt) (hs : s.Ok) (h : StOk b s) : Fun E0 29 [.agg b.cs, .agg s.cs] [] (.v (vS (stT b s))) [] [] := by
  have ht := h.turn
  have hw := h.wea
  have hnu := h.gb.nums
  simp only [numsOk, Bool.and_eq_true] at hnu
  have htu := of_decide_eq_true hnu.2
  have hl := h.len
  have d1 := dgT_size ht.1 (show s.turn < 100 by omega)
  have d2 := dgT_size hw.1 (show s.wea < 100 by omega)
  have hh := hT_size ht.1 (by omega) hw.1 (by omega)
  refine Fun_of_xc k29 rfl rfl (fun k q h => by cases h) ?_
  ((conv=>whnf);repeat((first|refine Ct ‹_› ?_|refine Cf ‹_› ?_|refine Ct rfl ?_|refine Cf rfl ?_|refine Bi rfl ?_|refine Bz rfl ?_|refine Lr ?_);conv=>whnf))
  refine Rw_i ⟨false, 1, 1, fun _ _ => cI s.turn⟩ ⟨rfl, rfl, rfl, fun i j hi hj => ?_⟩ ?_
  · have hi : i < 1 := hi
    have hj : j < 1 := hj
    obtain rfl : i = 0 := by omega
    obtain rfl : j = 0 := by omega
    rfl
  ((conv=>whnf);repeat((first|refine Ct ‹_› ?_|refine Cf ‹_› ?_|refine Ct rfl ?_|refine Cf rfl ?_|refine Bi rfl ?_|refine Bz rfl ?_|refine Lr ?_);conv=>whnf))
  refine CallQ_eq ((show _ = [vS ⟨#[116, 117, 114, 110]⟩, V.one (.ro 1 1 fun _ _ => cI s.turn)] from rfl)) ?_
  (refine CallQ_some (F_wordsText ⟨#[116, 117, 114, 110]⟩ s.turn (by decide) ht.1 (by omega)) ?_ ?_ ?_; rfl; rfl); ((conv=>whnf);repeat((first|refine Ct ‹_› ?_|refine Cf ‹_› ?_|refine Ct rfl ?_|refine Cf rfl ?_|refine Bi rfl ?_|refine Bz rfl ?_|refine Lr ?_);conv=>whnf))
  refine Bnd_i (bss (wdT_size (Nat.le_refl _) d1) (Nat.le_refl _) rfl) ?_; ((conv=>whnf);repeat((first|refine Ct ‹_› ?_|refine Cf ‹_› ?_|refine Ct rfl ?_|refine Cf rfl ?_|refine Bi rfl ?_|refine Bz rfl ?_|refine Lr ?_);conv=>whnf))
  refine Rw_i ⟨false, 1, 1, fun _ _ => cI s.wea⟩ ⟨rfl, rfl, rfl, fun i j hi hj => ?_⟩ ?_
  · have hi : i < 1 := hi
    have hj : j < 1 := hj
    obtain rfl : i = 0 := by omega
    obtain rfl : j = 0 := by omega
    rfl
  ((conv=>whnf);repeat((first|refine Ct ‹_› ?_|refine Cf ‹_› ?_|refine Ct rfl ?_|refine Cf rfl ?_|refine Bi rfl ?_|refine Bz rfl ?_|refine Lr ?_);conv=>whnf))
  refine CallQ_eq ((show _ = [vS ⟨#[119, 101, 97, 116, 104, 101, 114]⟩, V.one (.ro 1 1 fun _ _ => cI s.wea)] from rfl)) ?_
  (refine CallQ_some (F_wordsText ⟨#[119, 101, 97, 116, 104, 101, 114]⟩ s.wea (by decide) hw.1 (by omega)) ?_ ?_ ?_; rfl; rfl); ((conv=>whnf);repeat((first|refine Ct ‹_› ?_|refine Cf ‹_› ?_|refine Ct rfl ?_|refine Cf rfl ?_|refine Bi rfl ?_|refine Bz rfl ?_|refine Lr ?_);conv=>whnf))
  refine Bnd_i (bss (szA (wdT_size (Nat.le_refl _) d1) (Nat.le_refl _)) (wdT_size (Nat.le_refl _) d2) rfl) ?_; ((conv=>whnf);repeat((first|refine Ct ‹_› ?_|refine Cf ‹_› ?_|refine Ct rfl ?_|refine Cf rfl ?_|refine Bi rfl ?_|refine Bz rfl ?_|refine Lr ?_);conv=>whnf))
  refine Bnd_i (bss (szA (szA (wdT_size (Nat.le_refl _) d1) (Nat.le_refl _)) (wdT_size (Nat.le_refl _) d2)) (Nat.le_refl _) rfl) ?_; ((conv=>whnf);repeat((first|refine Ct ‹_› ?_|refine Cf ‹_› ?_|refine Ct rfl ?_|refine Cf rfl ?_|refine Bi rfl ?_|refine Bz rfl ?_|refine Lr ?_);conv=>whnf))
  rw [hT_of]
  refine WLoop_v2 ⟨[2, 5, 20, 21, 22], [2], []⟩ (fun (t : Int) (out : ByteArray) => hdS 54 [(2, .v (.one (.box 2 0))), (5, .v (vS out)), (20, .v (.one (roU s.un))), (21, .v (vI s.un.length)), (22, .v (vI t))] [(2, b.cs)] [])
    (fun n t out => 0 ≤ t ∧ t + n = s.un.length ∧ out = usT b (hT s) (s.un.take t.toNat) ∧ out.size ≤ 20 + 20 * t.toNat) s.un.length 0 (hT s) rfl ⟨by omega, by omega, rfl, by omega⟩ ?_
  rintro n t out ⟨h1, h2, h3, h4⟩
  ((conv=>whnf);repeat((first|refine Ct ‹_› ?_|refine Cf ‹_› ?_|refine Ct rfl ?_|refine Cf rfl ?_|refine Bi rfl ?_|refine Bz rfl ?_|refine Lr ?_);conv=>whnf))
  refine Cnd_i (fun g => ?_) (fun g => ?_)
  · have ht := of_decide_eq_true g
    have hu := UnS.of h.gb (h.un _ (getD_memT (d := Unt.d) h1 ht))
    have hz := uT_size hu
    have s1 := dgT_size hu.side.1 hu.side.2
    have s2 := dgT_size hu.ste.1 hu.ste.2
    have s3 := atT_size hu.at'
    have s4 := hu.nam
    have s5 : out.size ≤ 300 := by omega
    have hnx : usT b (hT s) (s.un.take (t + 1).toNat) = out ++ uT b (s.un.getD t.toNat Unt.d) := by
      rw [show (t + 1).toNat = t.toNat + 1 by omega, usT_take _ _ _ _ (by omega), ← h3]
    ((conv=>whnf);repeat((first|refine Ct ‹_› ?_|refine Cf ‹_› ?_|refine Ct rfl ?_|refine Cf rfl ?_|refine Bi rfl ?_|refine Bz rfl ?_|refine Lr ?_);conv=>whnf))
    refine Bnd_i (⟨h1, ht⟩) ?_; ((conv=>whnf);repeat((first|refine Ct ‹_› ?_|refine Cf ‹_› ?_|refine Ct rfl ?_|refine Cf rfl ?_|refine Bi rfl ?_|refine Bz rfl ?_|refine Lr ?_);conv=>whnf))
    (refine CallQ_some (F_Itoa (s.un.getD t.toNat Unt.d).side hu.side.1 hu.side.2) ?_ ?_ ?_; rfl; rfl); ((conv=>whnf);repeat((first|refine Ct ‹_› ?_|refine Cf ‹_› ?_|refine Ct rfl ?_|refine Cf rfl ?_|refine Bi rfl ?_|refine Bz rfl ?_|refine Lr ?_);conv=>whnf))
    refine Bnd_i (bss s1 (Nat.le_refl _) rfl) ?_; ((conv=>whnf);repeat((first|refine Ct ‹_› ?_|refine Cf ‹_› ?_|refine Ct rfl ?_|refine Cf rfl ?_|refine Bi rfl ?_|refine Bz rfl ?_|refine Lr ?_);conv=>whnf))
    refine Bnd_i (hu.kind) ?_; ((conv=>whnf);repeat((first|refine Ct ‹_› ?_|refine Cf ‹_› ?_|refine Ct rfl ?_|refine Cf rfl ?_|refine Bi rfl ?_|refine Bz rfl ?_|refine Lr ?_);conv=>whnf))
    refine Bnd_i (bss (szA s1 (Nat.le_refl _)) s4 rfl) ?_; ((conv=>whnf);repeat((first|refine Ct ‹_› ?_|refine Cf ‹_› ?_|refine Ct rfl ?_|refine Cf rfl ?_|refine Bi rfl ?_|refine Bz rfl ?_|refine Lr ?_);conv=>whnf))
    refine Bnd_i (bss (szA (szA s1 (Nat.le_refl _)) s4) (Nat.le_refl _) rfl) ?_; ((conv=>whnf);repeat((first|refine Ct ‹_› ?_|refine Cf ‹_› ?_|refine Ct rfl ?_|refine Cf rfl ?_|refine Bi rfl ?_|refine Bz rfl ?_|refine Lr ?_);conv=>whnf))
    (refine CallQ_some (F_placeText (s.un.getD t.toNat Unt.d).at' hu.at') ?_ ?_ ?_; rfl; rfl); ((conv=>whnf);repeat((first|refine Ct ‹_› ?_|refine Cf ‹_› ?_|refine Ct rfl ?_|refine Cf rfl ?_|refine Bi rfl ?_|refine Bz rfl ?_|refine Lr ?_);conv=>whnf))
    refine Bnd_i (bss (szA (szA (szA s1 (Nat.le_refl _)) s4) (Nat.le_refl _)) s3 rfl) ?_; ((conv=>whnf);repeat((first|refine Ct ‹_› ?_|refine Cf ‹_› ?_|refine Ct rfl ?_|refine Cf rfl ?_|refine Bi rfl ?_|refine Bz rfl ?_|refine Lr ?_);conv=>whnf))
    refine Bnd_i (bss (szA (szA (szA (szA s1 (Nat.le_refl _)) s4) (Nat.le_refl _)) s3) (Nat.le_refl _) rfl) ?_; ((conv=>whnf);repeat((first|refine Ct ‹_› ?_|refine Cf ‹_› ?_|refine Ct rfl ?_|refine Cf rfl ?_|refine Bi rfl ?_|refine Bz rfl ?_|refine Lr ?_);conv=>whnf))
    (refine CallQ_some (F_Itoa (s.un.getD t.toNat Unt.d).ste hu.ste.1 hu.ste.2) ?_ ?_ ?_; rfl; rfl); ((conv=>whnf);repeat((first|refine Ct ‹_› ?_|refine Cf ‹_› ?_|refine Ct rfl ?_|refine Cf rfl ?_|refine Bi rfl ?_|refine Bz rfl ?_|refine Lr ?_);conv=>whnf))
    refine Bnd_i (bss (szA (szA (szA (szA (szA s1 (Nat.le_refl _)) s4) (Nat.le_refl _)) s3) (Nat.le_refl _)) s2 rfl) ?_; ((conv=>whnf);repeat((first|refine Ct ‹_› ?_|refine Cf ‹_› ?_|refine Ct rfl ?_|refine Cf rfl ?_|refine Bi rfl ?_|refine Bz rfl ?_|refine Lr ?_);conv=>whnf))
    refine Bnd_i (bss (szA (szA (szA (szA (szA (szA s1 (Nat.le_refl _)) s4) (Nat.le_refl _)) s3) (Nat.le_refl _)) s2) (Nat.le_refl _) rfl) ?_; ((conv=>whnf);repeat((first|refine Ct ‹_› ?_|refine Cf ‹_› ?_|refine Ct rfl ?_|refine Cf rfl ?_|refine Bi rfl ?_|refine Bz rfl ?_|refine Lr ?_);conv=>whnf))
    refine Bnd_i (bss s5 (szA (szA (szA (szA (szA (szA (szA s1 (Nat.le_refl _)) s4) (Nat.le_refl _)) s3) (Nat.le_refl _)) s2) (Nat.le_refl _)) rfl) ?_; ((conv=>whnf);repeat((first|refine Ct ‹_› ?_|refine Cf ‹_› ?_|refine Ct rfl ?_|refine Cf rfl ?_|refine Bi rfl ?_|refine Bz rfl ?_|refine Lr ?_);conv=>whnf))
    refine ⟨n - 1, t + 1, out ++ uT b (s.un.getD t.toNat Unt.d), ?_, by omega, by omega, by omega, hnx.symm, ?_⟩
    · rw [wrapI (by omega)]; rfl
    · rw [ByteArray.size_append]; omega
  · have ht := of_decide_eq_false g
    ((conv=>whnf);repeat((first|refine Ct ‹_› ?_|refine Cf ‹_› ?_|refine Ct rfl ?_|refine Cf rfl ?_|refine Bi rfl ?_|refine Bz rfl ?_|refine Lr ?_);conv=>whnf))
    rw [h3, show t.toNat = s.un.length by omega, List.take_length]
    exact ⟨rfl, rfl, rfl⟩

def rdI (s : ByteArray) : Int × Bool := match Lib.atoiAll s.data.toList with
  | .ok v => if s.size > 10 ∨ (⟨(Lib.itoa v).toArray⟩ : ByteArray) ≠ s then (0, false) else (v, true)
  | _ => (0, false)

theorem below_growP {w w' : World} (hb : Below w.heap.size w w') (k : Nat) (os : Array Obj) : Below w.heap.size w (Sort.grow (w'.drewN k) os) :=
  hb.trans ⟨rfl, rfl, rfl, by show w'.heap.size ≤ (w'.heap ++ os).size; simp, fun b hb' => by
    show (w'.heap ++ os)[b]? = w'.heap[b]?
    rw [Array.getElem?_append_left (by have := hb.size; omega)]⟩

theorem readInt_calls (s : ByteArray) (hlim : s.size ≤ 281474976710656) (ev0 ev1 : Value) (w : World) (hv0 : w.cell? ⟨Tryz.lays172_ren.g 15, 0, none⟩ = some ev0) (he0 : ev0 = .nilIface ∨ ∃ te pe, ev0 = .iface te pe) (hv1 : w.cell? ⟨Tryz.lays172_ren.g 16, 0, none⟩ = some ev1) (he1 : ev1 = .nilIface ∨ ∃ te pe, ev1 = .iface te pe)
    (htab : ∀ w', Below w.heap.size w w' → Lib.TabIs Tryz.prog w' "internal/strconv.uint64pow10" .u64 Lib.pow10Tab) :
    Calls Tryz.prog 26 #[.string s] w fun e w' => e = .returned (.tuple #[.int .i64 (rdI s).1, .bool (rdI s).2]) ∧ Below w.heap.size w w' := by
  cases h : Lib.atoiAll s.data.toList with
  | ok v =>
    obtain ⟨b0, b1⟩ := Lib.atoiAll_bounds h
    by_cases h2 : s.size > 10
    · have hr : rdI s = (0, false) := by simp only [rdI, h]; rw [if_pos (.inl h2)]
      rw [hr]
      go_enter Tryz.func26, Tryz.ntmps26
      go_wp2_with (go_at_call 64; refine (Any.strconv_Atoi_ok Tryz.lays172 s (by omega) v h _).mono ?_; rintro e w' ⟨rfl, hw⟩)
      have hb : Below w.heap.size w w' := by
        rcases hw with rfl | ⟨t, rfl⟩
        · exact Below.refl _ _
        · exact Lib.bytesWorld_below _ _ _
      have hd : decide ((s.size : Int) > 10) = true := decide_eq_true (by omega)
      go_wp2
      go_ret2
      exact ⟨rfl, hb⟩
    · have hd : decide ((s.size : Int) > 10) = false := decide_eq_false (by omega)
      by_cases h3 : (⟨(Lib.itoa v).toArray⟩ : ByteArray) = s
      · have hr : rdI s = (v, true) := by simp only [rdI, h]; rw [if_neg (fun hh => hh.elim h2 (fun hh => hh h3))]
        rw [hr]
        go_enter Tryz.func26, Tryz.ntmps26
        go_wp2_with (go_at_call 64; refine (Any.strconv_Atoi_ok Tryz.lays172 s (by omega) v h _).mono ?_; rintro e w' ⟨rfl, hw⟩)
        have hb : Below w.heap.size w w' := by
          rcases hw with rfl | ⟨t, rfl⟩
          · exact Below.refl _ _
          · exact Lib.bytesWorld_below _ _ _
        go_wp2_with (go_at_call 65; refine (Any.strconv_Itoa Tryz.lays171M v b0 b1 _ (htab _ hb)).mono ?_; rintro e w2 ⟨he, k, os, rfl⟩; rw [h3] at he; subst he)
        have hb2 : Below w.heap.size w (Sort.grow (w'.drewN k) os) := below_growP hb k os
        go_wp2
        go_ret2
        exact ⟨rfl, hb2⟩
      · have hr : rdI s = (0, false) := by simp only [rdI, h]; rw [if_pos (.inr h3)]
        rw [hr]
        go_enter Tryz.func26, Tryz.ntmps26
        go_wp2_with (go_at_call 64; refine (Any.strconv_Atoi_ok Tryz.lays172 s (by omega) v h _).mono ?_; rintro e w' ⟨rfl, hw⟩)
        have hb : Below w.heap.size w w' := by
          rcases hw with rfl | ⟨t, rfl⟩
          · exact Below.refl _ _
          · exact Lib.bytesWorld_below _ _ _
        go_wp2_with (go_at_call 65; refine (Any.strconv_Itoa Tryz.lays171M v b0 b1 _ (htab _ hb)).mono ?_; rintro e w2 ⟨he, k, os, rfl⟩; subst he)
        have hb2 : Below w.heap.size w (Sort.grow (w'.drewN k) os) := below_growP hb k os
        go_wp2
        · go_ret2
          exact ⟨rfl, hb2⟩
        · rename_i hh
          exfalso
          have h4 : Lib.itoa v = s.data.toList := by
            rw [← ByteArray.toList_eq]
            have hh : (Lib.itoa v == s.toList) = true := by simpa using hh
            exact eq_of_beq hh
          exact h3 (by rw [h4])
  | range =>
    have hr : rdI s = (0, false) := by simp only [rdI, h]
    rw [hr]
    go_enter Tryz.func26, Tryz.ntmps26
    go_wp2_with (go_at_call 64; refine (Any.strconv_Atoi_range Tryz.lays172 s hlim h ev1 _ ?_ he1).mono ?_)
    · exact hv1
    rintro e W1 ⟨N, rfl, -, -, hb⟩
    go_wp2
    go_ret2
    exact ⟨rfl, hb⟩
  | _ =>
    have hr : rdI s = (0, false) := by simp only [rdI, h]
    rw [hr]
    go_enter Tryz.func26, Tryz.ntmps26
    go_wp2_with (go_at_call 64; refine (Any.strconv_Atoi_syntax Tryz.lays172 s hlim h ev0 _ ?_ he0).mono ?_)
    · exact hv0
    rintro e W1 ⟨N, rfl, -, -, hb⟩
    go_wp2
    go_ret2
    exact ⟨rfl, hb⟩

theorem cell_of {w : World} {g : Nat} {cs : Array Value} {v : Value} {t : TypeId} {f : Nat × Nat} (h : w.heap[g]? = some (Obj.cells cs t f)) (hv : cs[0]? = some v) : w.cell? ⟨g, 0, none⟩ = some v := by
  simp [World.cell?, h, hv]

theorem var_of {w : World} {P : Program} {n : String} {g : Nat} {cs : Array Value} {t : TypeId} {f : Nat × Nat} (hg : P.globalNamed n = some g) (h : w.heap[g]? = some (Obj.cells cs t f)) : w.var? P n = some cs := by
  simp [World.var?, hg, h]

theorem F_readInt (s : ByteArray) (hl : s.size ≤ 1048576) : Fun E0 26 [vS s] [] (.tup [vI (rdI s).1, vB (rdI s).2]) [] [] := by
  refine Fun_strIB (by kernel_rfl) fun w I hg => ?_
  have m15 : (Tryz.prog.globalNamed "strconv.ErrSyntax").getD 0 = Tryz.lays172_ren.g 15 := by rw [Tryz.lays172.m15]; rfl
  have m16 : (Tryz.prog.globalNamed "strconv.ErrRange").getD 0 = Tryz.lays172_ren.g 16 := by rw [Tryz.lays172.m16]; rfl
  have m17 : (Tryz.prog.globalNamed "internal/strconv.uint64pow10").getD 0 = Tryz.lays172_ren.g 17 := by rw [Tryz.lays172.m17]; rfl
  obtain ⟨cs0, t0, f0, h0, ev0, k0, he0⟩ := gok_blk hg (g := Tryz.lays172_ren.g 15) (φ := isErr) (by rw [← m15]; exact .tail _ (.head _))
  obtain ⟨cs1, t1, f1, h1, ev1, k1, he1⟩ := gok_blk hg (g := Tryz.lays172_ren.g 16) (φ := isErr) (by rw [← m16]; exact .tail _ (.tail _ (.head _)))
  obtain ⟨cs2, t2, f2, h2, h3⟩ := gok_blk hg (g := Tryz.lays172_ren.g 17) (φ := fun cs => cs = (Lib.pow10Tab.map fun z => Value.int .u64 z).toArray) (by rw [← m17]; exact .tail _ (.tail _ (.tail _ (.head _))))
  refine readInt_calls s (by omega) ev0 ev1 w (cell_of h0 k0) he0 (cell_of h1 k1) he1 (fun w' hb => ?_)
  unfold Lib.TabIs
  rw [← h3]
  exact var_of Tryz.lays172.m17 ((hb.block _ (Array.getElem?_eq_some_iff.1 h2).1).trans h2)

/-- a text, cut at each byte `c` -/
def splL (c : UInt8) : List UInt8 → List (List UInt8)
  | [] => [[]]
  | b :: l => if b = c then [] :: splL c l else match splL c l with
    | x :: xs => (b :: x) :: xs
    | [] => [[b]]

theorem splL_ne (c : UInt8) : ∀ l, splL c l ≠ []
  | [], h => by cases h
  | b :: l, h => by
    rw [splL] at h
    split at h
    · cases h
    · split at h <;> cases h

theorem splL_no {c : UInt8} : ∀ {a : List UInt8}, c ∉ a → splL c a = [a]
  | [], _ => rfl
  | b :: l, h => by
    rw [splL, if_neg (fun e => h (by rw [e]; exact List.mem_cons_self)), splL_no (fun hh => h (List.mem_cons_of_mem _ hh))]

theorem splL_app {c : UInt8} : ∀ {a r : List UInt8}, c ∉ a → splL c (a ++ c :: r) = a :: splL c r
  | [], r, _ => by
    show splL c (c :: r) = _
    rw [splL, if_pos rfl]
  | b :: l, r, h => by
    show splL c (b :: (l ++ c :: r)) = _
    rw [splL, if_neg (fun e => h (by rw [e]; exact List.mem_cons_self)), splL_app (fun hh => h (List.mem_cons_of_mem _ hh))]

theorem splitK_splL (c : UInt8) : ∀ l : List UInt8, Lib.splitK [c] 0 (Lib.count l [c]) l = splL c l
  | [] => by
    rw [show Lib.count [] [c] = 0 from Lib.count_one c []]
    rfl
  | b :: l => by
    have ih := splitK_splL c l
    by_cases e : b = c
    · subst e
      have hi : Lib.index (b :: l) [b] = 0 := by rw [Lib.index, if_pos (by simp [List.isPrefixOf])]
      rw [Lib.count_cons_eq, Nat.add_comm, splL, if_pos rfl, Lib.splitK, hi, if_neg (by decide)]
      show [] :: Lib.splitK [b] 0 _ (List.drop 1 (b :: l)) = _
      rw [show List.drop 1 (b :: l) = l from rfl, ih]
    · rw [Lib.count_cons_ne _ _ _ e, splL, if_neg e, ← ih]
      cases hk : Lib.count l [c] with
      | zero => rfl
      | succ k =>
        have hi : Lib.index (b :: l) [c] = if Lib.index l [c] == -1 then -1 else Lib.index l [c] + 1 := by
          rw [Lib.index, if_neg (by
            intro h
            have h : (c == b) = true := by simpa [List.isPrefixOf] using h
            exact e (eq_of_beq h).symm)]
        rw [Lib.splitK, Lib.splitK, hi]
        have hge := Lib.index_ge l [c]
        by_cases hm : Lib.index l [c] = -1
        · rw [hm]; rfl
        · have h1 : (Lib.index l [c] == -1) = false := beq_eq_false_iff_ne.2 hm
          have h2 : (Lib.index l [c] + 1 == -1) = false := beq_eq_false_iff_ne.2 (by omega)
          rw [h1]
          simp only [Bool.false_eq_true, if_false]
          rw [h2]
          simp only [Bool.false_eq_true, if_false]
          rw [show (Lib.index l [c] + 1).toNat = (Lib.index l [c]).toNat + 1 by omega]
          rw [show (Lib.index l [c]).toNat + 1 + [c].length = (Lib.index l [c]).toNat + [c].length + 1 by omega]
          rfl

def spB (s : ByteArray) (c : UInt8) : List ByteArray := (splL c s.data.toList).map fun l => ⟨l.toArray⟩

theorem spB_len (s : ByteArray) (c : UInt8) : (spB s c).length = (splL c s.data.toList).length := by simp [spB]

theorem spB_pos (s : ByteArray) (c : UInt8) : 0 < (spB s c).length := by
  rw [spB_len]
  exact List.length_pos_iff.2 (splL_ne c _)

theorem splitB_spB (s : ByteArray) (c : UInt8) : Lib.splitB ⟨#[c]⟩ 0 (Lib.countB s ⟨#[c]⟩) s = spB s c := by
  have h := Lib.splitB_data ⟨#[c]⟩ 0 (Lib.countB s ⟨#[c]⟩) s
  have h2 : Lib.splitK [c] 0 (Lib.countB s ⟨#[c]⟩) s.data.toList = splL c s.data.toList := splitK_splL c s.data.toList
  rw [show (⟨#[c]⟩ : ByteArray).data.toList = [c] from rfl, h2] at h
  unfold spB
  rw [← h, List.map_map]
  conv => lhs; rw [← List.map_id (Lib.splitB ⟨#[c]⟩ 0 (Lib.countB s ⟨#[c]⟩) s)]
  rfl

theorem F_Split (s : ByteArray) (c : UInt8) (hl : s.size ≤ 1048576) : Fun E0 25 [vS s, vS ⟨#[c]⟩] [] (.v (.one (.own 0 (spB s c).length))) [(0, rwS (spB s c))] [] := by
  refine Fun_split (ty := Tryz.lays146_ren.t 9) (by kernel_rfl) fun w I hg => ?_
  have m1 : (Tryz.prog.globalNamed "internal/bytealg.MaxLen").getD 0 = Tryz.lays146_ren.g 1 := by rw [Tryz.lays146.m1]; rfl
  obtain ⟨cs0, t0, f0, h0, m, k0⟩ := gok_blk hg (g := Tryz.lays146_ren.g 1) (φ := fun cs => ∃ m, cs[0]? = some (Value.int .i64 m)) (by rw [← m1]; exact .head _)
  have h := Any.strings_Split (ρ := Tryz.lays146_ren) { Tryz.lays146 with } Tryz.lays146.i9 s ⟨#[c]⟩ m w (by omega) (cell_of h0 k0) (Nat.le_refl 1)
  rw [splitB_spB, ← Lib.splitB_all ⟨#[c]⟩ (Nat.le_refl 1) 0 _ s rfl, splitB_spB] at h
  exact h

abbrev mkB (l : List UInt8) : ByteArray := ⟨l.toArray⟩

theorem mkB_ext (s : ByteArray) (a b : Nat) (hb : b ≤ s.size) : s.extract a b = mkB ((s.data.toList.drop a).take (b - a)) := by
  apply ByteArray.ext
  apply Array.ext'
  rw [ByteArray.data_extract, Array.toList_extract]

theorem bt_at {s : ByteArray} {i : Int} (h0 : 0 ≤ i) (h1 : i < s.size) : ∃ b, s.data.toList[i.toNat]? = some b ∧ bt s i = b.toNat := by
  have h : i.toNat < s.data.size := by
    have : s.size = s.data.size := rfl
    omega
  refine ⟨s.data[i.toNat], by rw [Array.getElem?_toList, Array.getElem?_eq_getElem h], ?_⟩
  unfold bt
  rw [Array.getElem?_eq_getElem h]
  rfl

theorem rwS_nil : RowEq ⟨false, 1, 0, fun _ _ => .u⟩ (rwS []) := ⟨rfl, rfl, rfl, fun i j hi _ => by have hi : i < 0 := hi; omega⟩

theorem F_l1Split (s : ByteArray) (c : UInt8) (hl : s.size ≤ 1048576) : Fun E0 51 [vS s, .one (.int .u8 (c.toNat : Int))] [] (.v (.one (.own 0 (spB s c).length))) [(0, rwS (spB s c))] [] := by
  have hsz : s.data.toList.length = s.size := by rw [Array.length_toList]; rfl
  refine Fun_of_xc k51 rfl rfl (nrC (fun _ _ _ _ => rfl) nrN) ?_
  ((conv=>whnf);repeat((first|refine Ct ‹_› ?_|refine Cf ‹_› ?_|refine Ct rfl ?_|refine Cf rfl ?_|refine Bi rfl ?_|refine Bz rfl ?_|refine Lr ?_);conv=>whnf))
  refine Rw_i (rwS []) rwS_nil ?_
  ((conv=>whnf);repeat((first|refine Ct ‹_› ?_|refine Cf ‹_› ?_|refine Ct rfl ?_|refine Cf rfl ?_|refine Bi rfl ?_|refine Bz rfl ?_|refine Lr ?_);conv=>whnf))
  refine Rw_i (rwS []) rwS_nil ?_
  ((conv=>whnf);repeat((first|refine Ct ‹_› ?_|refine Cf ‹_› ?_|refine Ct rfl ?_|refine Cf rfl ?_|refine Bi rfl ?_|refine Bz rfl ?_|refine Lr ?_);conv=>whnf))
  refine WLoop_v3 ⟨[0, 1, 5, 6, 7], [], []⟩ (fun (t f : Int) (o : List (List UInt8)) => hdS 34 [(0, .v (vS s)), (1, .v (.one (.int .u8 (c.toNat : Int)))), (5, .v (.one (.own (vkey 5) (o.map mkB).length))), (6, .v (vI f)), (7, .v (vI t))] [] [(vkey 5, rwS (o.map mkB))])
    (fun n t f o => 0 ≤ f ∧ f ≤ t ∧ t + n = s.size ∧ o ++ splL c (s.data.toList.drop f.toNat) = splL c s.data.toList ∧ o.length ≤ f ∧ ∀ k : Nat, f ≤ k → (k : Int) < t → s.data.toList[k]? ≠ some c) s.size 0 0 [] rfl ⟨by omega, by omega, by omega, rfl, by simp, fun k h1 h2 => by omega⟩ ?_
  rintro n t f o ⟨h1, h2, h3, h4, h5, h6⟩
  have no : ∀ m : Nat, m ≤ t.toNat → c ∉ (s.data.toList.drop f.toNat).take (m - f.toNat) := by
    intro m hm hc
    obtain ⟨k, hk, hkc⟩ := List.mem_iff_getElem.1 hc
    rw [List.length_take, List.length_drop] at hk
    rw [List.getElem_take, List.getElem_drop] at hkc
    exact h6 (f.toNat + k) (by omega) (by omega) (by rw [List.getElem?_eq_getElem (by omega), hkc])
  ((conv=>whnf);repeat((first|refine Ct ‹_› ?_|refine Cf ‹_› ?_|refine Ct rfl ?_|refine Cf rfl ?_|refine Bi rfl ?_|refine Bz rfl ?_|refine Lr ?_);conv=>whnf))
  refine Cnd_i (fun g => ?_) (fun g => ?_)
  · have ht := of_decide_eq_true g
    obtain ⟨b, hb1, hb2⟩ := bt_at (by omega : 0 ≤ t) ht
    ((conv=>whnf);repeat((first|refine Ct ‹_› ?_|refine Cf ‹_› ?_|refine Ct rfl ?_|refine Cf rfl ?_|refine Bi rfl ?_|refine Bz rfl ?_|refine Lr ?_);conv=>whnf))
    refine Bnd_i (⟨by omega, ht⟩) ?_; ((conv=>whnf);repeat((first|refine Ct ‹_› ?_|refine Cf ‹_› ?_|refine Ct rfl ?_|refine Cf rfl ?_|refine Bi rfl ?_|refine Bz rfl ?_|refine Lr ?_);conv=>whnf))
    refine Cnd_i (fun g2 => ?_) (fun g2 => ?_)
    · have d2 : bt s t = (c.toNat : Int) := of_decide_eq_true g2
      have ec : b = c := by
        rw [hb2] at d2
        exact UInt8.toNat_inj.1 (by omega)
      subst ec
      ((conv=>whnf);repeat((first|refine Ct ‹_› ?_|refine Cf ‹_› ?_|refine Ct rfl ?_|refine Cf rfl ?_|refine Bi rfl ?_|refine Bz rfl ?_|refine Lr ?_);conv=>whnf))
      refine Bnd_i (⟨h1, h2, by omega⟩) ?_; ((conv=>whnf);repeat((first|refine Ct ‹_› ?_|refine Cf ‹_› ?_|refine Ct rfl ?_|refine Cf rfl ?_|refine Bi rfl ?_|refine Bz rfl ?_|refine Lr ?_);conv=>whnf))
      refine Rw_self ?_
      ((conv=>whnf);repeat((first|refine Ct ‹_› ?_|refine Cf ‹_› ?_|refine Ct rfl ?_|refine Cf rfl ?_|refine Bi rfl ?_|refine Bz rfl ?_|refine Lr ?_);conv=>whnf))
      refine Bnd_i (by show (o.map mkB).length + 1 < _; rw [List.length_map]; omega) ?_
      ((conv=>whnf);repeat((first|refine Ct ‹_› ?_|refine Cf ‹_› ?_|refine Ct rfl ?_|refine Cf rfl ?_|refine Bi rfl ?_|refine Bz rfl ?_|refine Lr ?_);conv=>whnf))
      refine Rw_i (rwS ((o ++ [(s.data.toList.drop f.toNat).take (t.toNat - f.toNat)]).map mkB)) ?_ ?_
      · rw [List.map_append]
        refine rwS_app _ _ _ ?_
        show Cell.str _ = Cell.str _
        rw [mkB_ext _ _ _ (by omega)]
      ((conv=>whnf);repeat((first|refine Ct ‹_› ?_|refine Cf ‹_› ?_|refine Ct rfl ?_|refine Cf rfl ?_|refine Bi rfl ?_|refine Bz rfl ?_|refine Lr ?_);conv=>whnf))
      refine ⟨n - 1, t + 1, t + 1, o ++ [(s.data.toList.drop f.toNat).take (t.toNat - f.toNat)], ?_, by omega, by omega, by omega, by omega, ?_, ?_, fun k q1 q2 => by omega⟩
      · rw [wrapI (by omega)]
        simp only [List.length_map, List.length_append, List.length_cons, List.length_nil]
        rfl
      · rw [← h4, List.append_assoc]
        congr 1
        have hd : s.data.toList.drop f.toNat = (s.data.toList.drop f.toNat).take (t.toNat - f.toNat) ++ b :: s.data.toList.drop (t + 1).toNat := by
          conv => lhs; rw [← List.take_append_drop (t.toNat - f.toNat) (s.data.toList.drop f.toNat)]
          congr 1
          rw [List.drop_drop, show f.toNat + (t.toNat - f.toNat) = t.toNat by omega, show (t + 1).toNat = t.toNat + 1 by omega]
          obtain ⟨hlt, hb⟩ := List.getElem?_eq_some_iff.1 hb1
          rw [List.drop_eq_getElem_cons hlt, hb]
        conv => rhs; rw [hd]
        rw [splL_app (no t.toNat (Nat.le_refl _))]
        rfl
      · rw [List.length_append]; show ((o.length + 1 : Nat) : Int) ≤ _; omega
    · have d2 : ¬ bt s t = (c.toNat : Int) := of_decide_eq_false g2
      ((conv=>whnf);repeat((first|refine Ct ‹_› ?_|refine Cf ‹_› ?_|refine Ct rfl ?_|refine Cf rfl ?_|refine Bi rfl ?_|refine Bz rfl ?_|refine Lr ?_);conv=>whnf))
      refine ⟨n - 1, t + 1, f, o, ?_, by omega, by omega, by omega, by omega, h4, h5, fun k q1 q2 => ?_⟩
      · rw [wrapI (by omega)]; rfl
      · by_cases e : (k : Int) < t
        · exact h6 k q1 e
        · rw [show k = t.toNat by omega, hb1]
          intro e2
          cases e2
          exact d2 hb2
  · have ht := of_decide_eq_false g
    ((conv=>whnf);repeat((first|refine Ct ‹_› ?_|refine Cf ‹_› ?_|refine Ct rfl ?_|refine Cf rfl ?_|refine Bi rfl ?_|refine Bz rfl ?_|refine Lr ?_);conv=>whnf))
    refine Bnd_i (⟨h1, by omega⟩) ?_; ((conv=>whnf);repeat((first|refine Ct ‹_› ?_|refine Cf ‹_› ?_|refine Ct rfl ?_|refine Cf rfl ?_|refine Bi rfl ?_|refine Bz rfl ?_|refine Lr ?_);conv=>whnf))
    refine Rw_self ?_
    ((conv=>whnf);repeat((first|refine Ct ‹_› ?_|refine Cf ‹_› ?_|refine Ct rfl ?_|refine Cf rfl ?_|refine Bi rfl ?_|refine Bz rfl ?_|refine Lr ?_);conv=>whnf))
    refine Bnd_i (by show (o.map mkB).length + 1 < _; rw [List.length_map]; omega) ?_
    ((conv=>whnf);repeat((first|refine Ct ‹_› ?_|refine Cf ‹_› ?_|refine Ct rfl ?_|refine Cf rfl ?_|refine Bi rfl ?_|refine Bz rfl ?_|refine Lr ?_);conv=>whnf))
    have hn := no s.size (by omega)
    rw [List.take_of_length_le (by rw [List.length_drop]; omega)] at hn
    have e : (splL c s.data.toList).map mkB = (o.map mkB) ++ [mkB (s.data.toList.drop f.toNat)] := by
      rw [← h4, splL_no hn, List.map_append]; rfl
    refine Rw_i (rwS (spB s c)) ?_ ?_
    · show RowEq _ (rwS ((splL c s.data.toList).map mkB))
      rw [e]
      refine rwS_app _ _ _ ?_
      show Cell.str _ = Cell.str _
      rw [mkB_ext _ _ _ (Nat.le_refl _), List.take_of_length_le (by rw [List.length_drop]; omega)]
    ((conv=>whnf);repeat((first|refine Ct ‹_› ?_|refine Cf ‹_› ?_|refine Ct rfl ?_|refine Cf rfl ?_|refine Bi rfl ?_|refine Bz rfl ?_|refine Lr ?_);conv=>whnf))
    exact ⟨rfl, rfl, rfl⟩

def numT (s : ByteArray) : Nat → Int
  | 0 => 0
  | i + 1 => 10 * numT s i + (bt s i - 48)

def digB (s : ByteArray) (i : Int) : Prop := 48 ≤ bt s i ∧ bt s i ≤ 57

instance (s : ByteArray) (i : Int) : Decidable (digB s i) := inferInstanceAs (Decidable (_ ∧ _))

def rdS (s : ByteArray) : Int := if In s.size 1 6 = true ∧ ¬ (bt s 0 = 48 ∧ s.size > 1) ∧ ∀ i : Nat, i < s.size → digB s i then numT s s.size else -1

theorem numT_b {s : ByteArray} : ∀ {i : Nat}, (∀ j : Nat, j < i → digB s j) → i ≤ 6 → 0 ≤ numT s i ∧ numT s i ≤ 999999 ∧ (i ≤ 5 → numT s i ≤ 99999) ∧ (i ≤ 4 → numT s i ≤ 9999) ∧ (i ≤ 3 → numT s i ≤ 999) ∧ (i ≤ 2 → numT s i ≤ 99) ∧ (i ≤ 1 → numT s i ≤ 9) ∧ (i ≤ 0 → numT s i ≤ 0)
  | 0, _, _ => by simp [numT]
  | i + 1, h, hi => by
    obtain ⟨a0, a1, a2, a3, a4, a5, a6, a7⟩ := numT_b (i := i) (fun j hj => h j (by omega)) (by omega)
    have hd : digB s i := h i (by omega)
    obtain ⟨d1, d2⟩ := hd
    rw [numT]
    refine ⟨by omega, by omega, fun _ => by omega, fun _ => by omega, fun _ => by omega, fun _ => by omega, fun _ => by omega, fun _ => by omega⟩

theorem rdS_b (s : ByteArray) : -1 ≤ rdS s ∧ rdS s ≤ 999999 := by
  unfold rdS
  split
  · rename_i h
    have h1 := of_decide_eq_true h.1
    have := numT_b (s := s) (i := s.size) h.2.2 (by omega)
    omega
  · omega

theorem F_l1Read (s : ByteArray) (hl : s.size ≤ 1048576) : Fun E0 52 [vS s] [] (.v (vI (rdS s))) [] [] := by
  refine Fun_of_xc k52 rfl rfl (fun k q h => by cases h) ?_
  ((conv=>whnf);repeat((first|refine Ct ‹_› ?_|refine Cf ‹_› ?_|refine Ct rfl ?_|refine Cf rfl ?_|refine Bi rfl ?_|refine Bz rfl ?_|refine Lr ?_);conv=>whnf))
  (refine CallQ_some (F_l1In _ _ _) ?_ ?_ ?_; rfl; rfl); ((conv=>whnf);repeat((first|refine Ct ‹_› ?_|refine Cf ‹_› ?_|refine Ct rfl ?_|refine Cf rfl ?_|refine Bi rfl ?_|refine Bz rfl ?_|refine Lr ?_);conv=>whnf))
  by_cases e1 : In s.size 1 6 = true
  · have q1 : (!In s.size 1 6) = false := by rw [e1]; rfl
    have d1 := of_decide_eq_true e1
    refine Cnd_f q1 ?_
    ((conv=>whnf);repeat((first|refine Ct ‹_› ?_|refine Cf ‹_› ?_|refine Ct rfl ?_|refine Cf rfl ?_|refine Bi rfl ?_|refine Bz rfl ?_|refine Lr ?_);conv=>whnf))
    refine Bnd_i (⟨by omega, by omega⟩) ?_; ((conv=>whnf);repeat((first|refine Ct ‹_› ?_|refine Cf ‹_› ?_|refine Ct rfl ?_|refine Cf rfl ?_|refine Bi rfl ?_|refine Bz rfl ?_|refine Lr ?_);conv=>whnf))
    by_cases e2 : bt s 0 = 48
    · have q2 : (bt s 0 == 48) = true := decide_eq_true e2
      refine Cnd_t q2 ?_
      ((conv=>whnf);repeat((first|refine Ct ‹_› ?_|refine Cf ‹_› ?_|refine Ct rfl ?_|refine Cf rfl ?_|refine Bi rfl ?_|refine Bz rfl ?_|refine Lr ?_);conv=>whnf))
      by_cases e3 : (s.size : Int) > 1
      · refine Cnd_t (decide_eq_true e3) ?_
        ((conv=>whnf);repeat((first|refine Ct ‹_› ?_|refine Cf ‹_› ?_|refine Ct rfl ?_|refine Cf rfl ?_|refine Bi rfl ?_|refine Bz rfl ?_|refine Lr ?_);conv=>whnf))
        rw [rdS, if_neg (fun h => h.2.1 ⟨e2, by omega⟩)]
        exact ⟨rfl, rfl, rfl⟩
      · refine Cnd_f (decide_eq_false e3) ?_
        ((conv=>whnf);repeat((first|refine Ct ‹_› ?_|refine Cf ‹_› ?_|refine Ct rfl ?_|refine Cf rfl ?_|refine Bi rfl ?_|refine Bz rfl ?_|refine Lr ?_);conv=>whnf))
        have e4 : ¬ (bt s 0 = 48 ∧ s.size > 1) := fun h => e3 (by omega)
        refine WLoop_v2 ⟨[0, 3, 4], [], []⟩ (fun (i v : Int) => hdS 44 [(0, .v (vS s)), (3, .v (vI v)), (4, .v (vI i))] [] [])
          (fun n i v => 0 ≤ i ∧ i + n = s.size ∧ v = numT s i.toNat ∧ ∀ j : Nat, (j : Int) < i → digB s j) s.size 0 0 rfl ⟨by omega, by omega, rfl, fun j hj => by omega⟩ ?_
        rintro n i v ⟨h1, h2, h3, h4⟩
        have hb := numT_b (s := s) (i := i.toNat) (fun j hj => h4 j (by omega)) (by omega)
        rw [← h3] at hb
        ((conv=>whnf);repeat((first|refine Ct ‹_› ?_|refine Cf ‹_› ?_|refine Ct rfl ?_|refine Cf rfl ?_|refine Bi rfl ?_|refine Bz rfl ?_|refine Lr ?_);conv=>whnf))
        refine Cnd_i (fun g => ?_) (fun g => ?_)
        · have ht := of_decide_eq_true g
          ((conv=>whnf);repeat((first|refine Ct ‹_› ?_|refine Cf ‹_› ?_|refine Ct rfl ?_|refine Cf rfl ?_|refine Bi rfl ?_|refine Bz rfl ?_|refine Lr ?_);conv=>whnf))
          refine Bnd_i (⟨h1, ht⟩) ?_; ((conv=>whnf);repeat((first|refine Ct ‹_› ?_|refine Cf ‹_› ?_|refine Ct rfl ?_|refine Cf rfl ?_|refine Bi rfl ?_|refine Bz rfl ?_|refine Lr ?_);conv=>whnf))
          by_cases e5 : bt s i < 48
          · have q5 : decide (bt s i < 48) = true := decide_eq_true e5
            refine Cnd_t q5 ?_
            ((conv=>whnf);repeat((first|refine Ct ‹_› ?_|refine Cf ‹_› ?_|refine Ct rfl ?_|refine Cf rfl ?_|refine Bi rfl ?_|refine Bz rfl ?_|refine Lr ?_);conv=>whnf))
            rw [rdS, if_neg (fun h => by have := (h.2.2 i.toNat (by omega)).1; rw [show ((i.toNat : Nat) : Int) = i by omega] at this; omega)]
            exact ⟨rfl, rfl, rfl⟩
          · have q5 : decide (bt s i < 48) = false := decide_eq_false e5
            refine Cnd_f q5 ?_
            ((conv=>whnf);repeat((first|refine Ct ‹_› ?_|refine Cf ‹_› ?_|refine Ct rfl ?_|refine Cf rfl ?_|refine Bi rfl ?_|refine Bz rfl ?_|refine Lr ?_);conv=>whnf))
            refine Bnd_i (⟨h1, ht⟩) ?_; ((conv=>whnf);repeat((first|refine Ct ‹_› ?_|refine Cf ‹_› ?_|refine Ct rfl ?_|refine Cf rfl ?_|refine Bi rfl ?_|refine Bz rfl ?_|refine Lr ?_);conv=>whnf))
            by_cases e6 : bt s i > 57
            · refine Cnd_t (decide_eq_true e6) ?_
              ((conv=>whnf);repeat((first|refine Ct ‹_› ?_|refine Cf ‹_› ?_|refine Ct rfl ?_|refine Cf rfl ?_|refine Bi rfl ?_|refine Bz rfl ?_|refine Lr ?_);conv=>whnf))
              rw [rdS, if_neg (fun h => by have := (h.2.2 i.toNat (by omega)).2; rw [show ((i.toNat : Nat) : Int) = i by omega] at this; omega)]
              exact ⟨rfl, rfl, rfl⟩
            · refine Cnd_f (decide_eq_false e6) ?_
              ((conv=>whnf);repeat((first|refine Ct ‹_› ?_|refine Cf ‹_› ?_|refine Ct rfl ?_|refine Cf rfl ?_|refine Bi rfl ?_|refine Bz rfl ?_|refine Lr ?_);conv=>whnf))
              refine Bnd_i (⟨h1, ht⟩) ?_; ((conv=>whnf);repeat((first|refine Ct ‹_› ?_|refine Cf ‹_› ?_|refine Ct rfl ?_|refine Cf rfl ?_|refine Bi rfl ?_|refine Bz rfl ?_|refine Lr ?_);conv=>whnf))
              refine ⟨n - 1, i + 1, 10 * v + (bt s i - 48), ?_, by omega, by omega, by omega, ?_, fun j hj => ?_⟩
              · rw [wrapU8 (by omega), wrapI (n := bt s i - 48) (by omega), wrapI (n := 10 * v) (by omega), wrapI (n := 10 * v + (bt s i - 48)) (by omega), wrapI (n := i + 1) (by omega)]; rfl
              · rw [show (i + 1).toNat = i.toNat + 1 by omega, numT, ← h3, show ((i.toNat : Nat) : Int) = i by omega]
              · by_cases e : (j : Int) < i
                · exact h4 j e
                · rw [show (j : Int) = i by omega]; exact ⟨by omega, by omega⟩
        · have ht := of_decide_eq_false g
          ((conv=>whnf);repeat((first|refine Ct ‹_› ?_|refine Cf ‹_› ?_|refine Ct rfl ?_|refine Cf rfl ?_|refine Bi rfl ?_|refine Bz rfl ?_|refine Lr ?_);conv=>whnf))
          rw [rdS, if_pos ⟨e1, e4, fun j hj => h4 j (by omega)⟩, h3, show i.toNat = s.size by omega]
          exact ⟨rfl, rfl, rfl⟩
    · have q2 : (bt s 0 == 48) = false := decide_eq_false e2
      refine Cnd_f q2 ?_
      ((conv=>whnf);repeat((first|refine Ct ‹_› ?_|refine Cf ‹_› ?_|refine Ct rfl ?_|refine Cf rfl ?_|refine Bi rfl ?_|refine Bz rfl ?_|refine Lr ?_);conv=>whnf))
      have e4 : ¬ (bt s 0 = 48 ∧ s.size > 1) := fun h => e2 h.1
      refine WLoop_v2 ⟨[0, 3, 4], [], []⟩ (fun (i v : Int) => hdS 44 [(0, .v (vS s)), (3, .v (vI v)), (4, .v (vI i))] [] [])
        (fun n i v => 0 ≤ i ∧ i + n = s.size ∧ v = numT s i.toNat ∧ ∀ j : Nat, (j : Int) < i → digB s j) s.size 0 0 rfl ⟨by omega, by omega, rfl, fun j hj => by omega⟩ ?_
      rintro n i v ⟨h1, h2, h3, h4⟩
      have hb := numT_b (s := s) (i := i.toNat) (fun j hj => h4 j (by omega)) (by omega)
      rw [← h3] at hb
      ((conv=>whnf);repeat((first|refine Ct ‹_› ?_|refine Cf ‹_› ?_|refine Ct rfl ?_|refine Cf rfl ?_|refine Bi rfl ?_|refine Bz rfl ?_|refine Lr ?_);conv=>whnf))
      refine Cnd_i (fun g => ?_) (fun g => ?_)
      · have ht := of_decide_eq_true g
        ((conv=>whnf);repeat((first|refine Ct ‹_› ?_|refine Cf ‹_› ?_|refine Ct rfl ?_|refine Cf rfl ?_|refine Bi rfl ?_|refine Bz rfl ?_|refine Lr ?_);conv=>whnf))
        refine Bnd_i (⟨h1, ht⟩) ?_; ((conv=>whnf);repeat((first|refine Ct ‹_› ?_|refine Cf ‹_› ?_|refine Ct rfl ?_|refine Cf rfl ?_|refine Bi rfl ?_|refine Bz rfl ?_|refine Lr ?_);conv=>whnf))
        by_cases e5 : bt s i < 48
        · have q5 : decide (bt s i < 48) = true := decide_eq_true e5
          refine Cnd_t q5 ?_
          ((conv=>whnf);repeat((first|refine Ct ‹_› ?_|refine Cf ‹_› ?_|refine Ct rfl ?_|refine Cf rfl ?_|refine Bi rfl ?_|refine Bz rfl ?_|refine Lr ?_);conv=>whnf))
          rw [rdS, if_neg (fun h => by have := (h.2.2 i.toNat (by omega)).1; rw [show ((i.toNat : Nat) : Int) = i by omega] at this; omega)]
          exact ⟨rfl, rfl, rfl⟩
        · have q5 : decide (bt s i < 48) = false := decide_eq_false e5
          refine Cnd_f q5 ?_
          ((conv=>whnf);repeat((first|refine Ct ‹_› ?_|refine Cf ‹_› ?_|refine Ct rfl ?_|refine Cf rfl ?_|refine Bi rfl ?_|refine Bz rfl ?_|refine Lr ?_);conv=>whnf))
          refine Bnd_i (⟨h1, ht⟩) ?_; ((conv=>whnf);repeat((first|refine Ct ‹_› ?_|refine Cf ‹_› ?_|refine Ct rfl ?_|refine Cf rfl ?_|refine Bi rfl ?_|refine Bz rfl ?_|refine Lr ?_);conv=>whnf))
          by_cases e6 : bt s i > 57
          · refine Cnd_t (decide_eq_true e6) ?_
            ((conv=>whnf);repeat((first|refine Ct ‹_› ?_|refine Cf ‹_› ?_|refine Ct rfl ?_|refine Cf rfl ?_|refine Bi rfl ?_|refine Bz rfl ?_|refine Lr ?_);conv=>whnf))
            rw [rdS, if_neg (fun h => by have := (h.2.2 i.toNat (by omega)).2; rw [show ((i.toNat : Nat) : Int) = i by omega] at this; omega)]
            exact ⟨rfl, rfl, rfl⟩
          · refine Cnd_f (decide_eq_false e6) ?_
            ((conv=>whnf);repeat((first|refine Ct ‹_› ?_|refine Cf ‹_› ?_|refine Ct rfl ?_|refine Cf rfl ?_|refine Bi rfl ?_|refine Bz rfl ?_|refine Lr ?_);conv=>whnf))
            refine Bnd_i (⟨h1, ht⟩) ?_; ((conv=>whnf);repeat((first|refine Ct ‹_› ?_|refine Cf ‹_› ?_|refine Ct rfl ?_|refine Cf rfl ?_|refine Bi rfl ?_|refine Bz rfl ?_|refine Lr ?_);conv=>whnf))
            refine ⟨n - 1, i + 1, 10 * v + (bt s i - 48), ?_, by omega, by omega, by omega, ?_, fun j hj => ?_⟩
            · rw [wrapU8 (by omega), wrapI (n := bt s i - 48) (by omega), wrapI (n := 10 * v) (by omega), wrapI (n := 10 * v + (bt s i - 48)) (by omega), wrapI (n := i + 1) (by omega)]; rfl
            · rw [show (i + 1).toNat = i.toNat + 1 by omega, numT, ← h3, show ((i.toNat : Nat) : Int) = i by omega]
            · by_cases e : (j : Int) < i
              · exact h4 j e
              · rw [show (j : Int) = i by omega]; exact ⟨by omega, by omega⟩
      · have ht := of_decide_eq_false g
        ((conv=>whnf);repeat((first|refine Ct ‹_› ?_|refine Cf ‹_› ?_|refine Ct rfl ?_|refine Cf rfl ?_|refine Bi rfl ?_|refine Bz rfl ?_|refine Lr ?_);conv=>whnf))
        rw [rdS, if_pos ⟨e1, e4, fun j hj => h4 j (by omega)⟩, h3, show i.toNat = s.size by omega]
        exact ⟨rfl, rfl, rfl⟩
  · have q1 : (!In s.size 1 6) = true := by
      rw [show In s.size 1 6 = false by simpa using e1]; rfl
    refine Cnd_t q1 ?_
    ((conv=>whnf);repeat((first|refine Ct ‹_› ?_|refine Cf ‹_› ?_|refine Ct rfl ?_|refine Cf rfl ?_|refine Bi rfl ?_|refine Bz rfl ?_|refine Lr ?_);conv=>whnf))
    rw [rdS, if_neg (fun h => e1 h.1)]
    exact ⟨rfl, rfl, rfl⟩

theorem splL_sz (c : UInt8) : ∀ l : List UInt8, (splL c l).length ≤ l.length + 1 ∧ ∀ x ∈ splL c l, x.length ≤ l.length
  | [] => ⟨by simp [splL], fun x hx => by simp [splL] at hx; subst hx; simp⟩
  | b :: l => by
    obtain ⟨h1, h2⟩ := splL_sz c l
    rw [splL]
    split
    · refine ⟨by simp only [List.length_cons]; omega, fun x hx => ?_⟩
      rcases List.mem_cons.1 hx with rfl | hx
      · simp
      · have := h2 x hx; simp only [List.length_cons]; omega
    · split
      · rename_i x xs e
        rw [e] at h1 h2
        refine ⟨by simp only [List.length_cons] at h1 ⊢; omega, fun y hy => ?_⟩
        rcases List.mem_cons.1 hy with rfl | hy
        · have := h2 x List.mem_cons_self; simp only [List.length_cons]; omega
        · have := h2 y (List.mem_cons_of_mem _ hy); simp only [List.length_cons]; omega
      · rename_i e
        exact absurd e (splL_ne c l)

abbrev gB (l : List ByteArray) (i : Nat) : ByteArray := l.getD i ⟨#[]⟩

theorem spB_sz {s : ByteArray} {c : UInt8} (i : Nat) : (gB (spB s c) i).size ≤ s.size := by
  by_cases h : i < (spB s c).length
  · have hm : gB (spB s c) i ∈ spB s c := by
      rw [gB, List.getD_eq_getElem?_getD, List.getElem?_eq_getElem h]
      exact List.getElem_mem _
    obtain ⟨l, hl, e⟩ := List.mem_map.1 hm
    rw [← e]
    have := (splL_sz c _).2 l hl
    rw [Array.length_toList] at this
    show l.toArray.size ≤ s.data.size
    rw [List.size_toArray]; exact this
  · rw [gB, List.getD_eq_getElem?_getD, List.getElem?_eq_none (by omega)]
    exact Nat.zero_le _

theorem spB_ln (s : ByteArray) (c : UInt8) : (spB s c).length ≤ s.size + 1 := by
  rw [spB_len]
  have := (splL_sz c s.data.toList).1
  rw [Array.length_toList] at this
  exact this

noncomputable def puS (b : Brd) (line : ByteArray) : Option Unt :=
  if (spB line 32).length = 4 then some ⟨rdS (gB (spB line 32) 0), fi (fun t => nameIs t.name (gB (spB line 32) 1)) b.r.knd, rdS (gB (spB line 32) 2), rdS (gB (spB line 32) 3)⟩ else none

noncomputable def pus (p : ByteArray → Option Unt) : List ByteArray → Option (List Unt)
  | [] => some []
  | x :: xs => match p x, pus p xs with
    | some u, some us => some (u :: us)
    | _, _ => none

abbrev midL (t : ByteArray) : List ByteArray := ((spB t 10).drop 1).dropLast

noncomputable def psS (b : Brd) (t : ByteArray) : Option Stt :=
  if (spB (gB (spB t 10) 0) 32).length = 4 then
    (pus (puS b) (midL t)).map fun us => ⟨rdS (gB (spB (gB (spB t 10) 0) 32) 1), rdS (gB (spB (gB (spB t 10) 0) 32) 3), us⟩
  else none

noncomputable def fin (b : Brd) (t : ByteArray) : Option Stt → Option Stt
  | some s => if (okBrd b && okSt b s) = true ∧ nameIs (stT b s) t = true then some s else none
  | none => none

def resT : Option Stt → T
  | some s => oR s true
  | none => zR 0 0 false

def resO : Option Stt → Ob
  | some s => [(2, rwU s.un)]
  | none => []

theorem resO_no (p : Option Stt) : ∀ k q, lk (resO p ++ []) k = some q → NoRo q := by
  cases p with
  | none => exact nrN
  | some s => exact nrC (rwU_no _) nrN

theorem resO_ok (p : Option Stt) : okNames [] (resO p) [] = true := by cases p <;> rfl

theorem mid_len (t : ByteArray) : (midL t).length = (spB t 10).length - 2 := by
  simp only [midL, List.length_dropLast, List.length_drop]; omega

theorem mid_at (t : ByteArray) {i : Nat} (h1 : 1 ≤ i) (h2 : i + 1 < (spB t 10).length) : (midL t).drop (i - 1) = gB (spB t 10) i :: (midL t).drop i := by
  have hl := mid_len t
  rw [List.drop_eq_getElem_cons (by omega : i - 1 < (midL t).length), show i - 1 + 1 = i by omega]
  congr 1
  simp only [midL]
  rw [List.getElem_dropLast, List.getElem_drop, gB, List.getD_eq_getElem?_getD, List.getElem?_eq_getElem (by omega)]
  simp only [show 1 + (i - 1) = i by omega]
  rfl

theorem rwU_app (l : List Unt) (x : Unt) (g : Nat → Nat → Cell) (h : ∀ j, j < 4 → g 0 j = nth x.cs j) : RowEq (appRow (rwU l) 1 g) (rwU (l ++ [x])) := by
  refine ⟨rfl, rfl, by simp [appRow], fun i j hi hj => ?_⟩
  have hj : j < 4 := hj
  have hi : i < l.length + 1 := hi
  show (bif Nat.blt i l.length then nth (l.getD i Unt.d).cs j else g (i - l.length) j) = nth ((l ++ [x]).getD i Unt.d).cs j
  by_cases e : i < l.length
  · have : Nat.blt i l.length = true := by simpa [Nat.blt_eq] using e
    rw [this]
    simp [List.getElem?_append, e]
  · have : Nat.blt i l.length = false := by
      rw [Bool.eq_false_iff]; intro h; exact e (by simpa [Nat.blt_eq] using h)
    rw [this, show i = l.length by omega]
    simp [h j hj]

theorem rd_i64 (s : ByteArray) : i64 (rdS s) := by
  have := rdS_b s
  exact ⟨by omega, by omega⟩

theorem pus_some {p : ByteArray → Option Unt} {x : ByteArray} {xs : List ByteArray} {u : Unt} (h : p x = some u) : pus p (x :: xs) = (pus p xs).map (u :: ·) := by
  rw [pus, h]; cases pus p xs <;> rfl

theorem pus_none {p : ByteArray → Option Unt} {x : ByteArray} {xs : List ByteArray} (h : p x = none) : pus p (x :: xs) = none := by
  rw [pus, h]

theorem fi_i64 {α : Type} (p : α → Bool) {l : List α} (hl : l.length ≤ maxLen) : i64 (fi p l) := by
  have hl : l.length ≤ 9223372036854775807 := hl
  unfold fi
  split
  · rename_i i h
    have := (List.findIdx?_eq_some_iff_getElem.1 h).1
    exact ⟨by omega, by omega⟩
  · exact ⟨by omega, by omega⟩

theorem F_sParse (b : Brd) (ho : b.Ok) (t : ByteArray) (hl : t.size ≤ 1048576) (hb : okBrd b = true) : Fun E0 21 [.agg b.cs, vS t] [] (resT (fin b t (psS b t))) (resO (fin b t (psS b t))) [] := by
  have hk : b.r.knd.length ≤ maxLen := ho.r.lknd
  refine Fun_of_xc k21 (resO_ok _) rfl (resO_no _) ?_
  ((conv=>whnf);repeat((first|refine Ct ‹_› ?_|refine Cf ‹_› ?_|refine Ct rfl ?_|refine Cf rfl ?_|refine Bi rfl ?_|refine Bz rfl ?_|refine Lr ?_);conv=>whnf))
  (refine CallQ_some (F_l1Split t 10 hl) ?_ ?_ ?_; rfl; rfl); ((conv=>whnf);repeat((first|refine Ct ‹_› ?_|refine Cf ‹_› ?_|refine Ct rfl ?_|refine Cf rfl ?_|refine Bi rfl ?_|refine Bz rfl ?_|refine Lr ?_);conv=>whnf))
  refine Bnd_i (⟨by omega, by have := spB_pos t 10; omega⟩) ?_; ((conv=>whnf);repeat((first|refine Ct ‹_› ?_|refine Cf ‹_› ?_|refine Ct rfl ?_|refine Cf rfl ?_|refine Bi rfl ?_|refine Bz rfl ?_|refine Lr ?_);conv=>whnf))
  have hl0 : (gB (spB t 10) 0).size ≤ 1048576 := Nat.le_trans (spB_sz 0) hl
  (refine CallQ_some (F_l1Split (gB (spB t 10) 0) 32 hl0) ?_ ?_ ?_; rfl; rfl); ((conv=>whnf);repeat((first|refine Ct ‹_› ?_|refine Cf ‹_› ?_|refine Ct rfl ?_|refine Cf rfl ?_|refine Bi rfl ?_|refine Bz rfl ?_|refine Lr ?_);conv=>whnf))
  by_cases h4 : (spB (gB (spB t 10) 0) 32).length = 4
  · refine Cnd_f (by rw [h4]; rfl) ?_
    ((conv=>whnf);repeat((first|refine Ct ‹_› ?_|refine Cf ‹_› ?_|refine Ct rfl ?_|refine Cf rfl ?_|refine Bi rfl ?_|refine Bz rfl ?_|refine Lr ?_);conv=>whnf))
    refine Bnd_i (⟨by omega, by omega⟩) ?_; ((conv=>whnf);repeat((first|refine Ct ‹_› ?_|refine Cf ‹_› ?_|refine Ct rfl ?_|refine Cf rfl ?_|refine Bi rfl ?_|refine Bz rfl ?_|refine Lr ?_);conv=>whnf))
    (refine CallQ_some (F_l1Read (gB (spB (gB (spB t 10) 0) 32) 1) (Nat.le_trans (spB_sz 1) hl0)) ?_ ?_ ?_; rfl; rfl); ((conv=>whnf);repeat((first|refine Ct ‹_› ?_|refine Cf ‹_› ?_|refine Ct rfl ?_|refine Cf rfl ?_|refine Bi rfl ?_|refine Bz rfl ?_|refine Lr ?_);conv=>whnf))
    refine Bnd_i (⟨by omega, by omega⟩) ?_; ((conv=>whnf);repeat((first|refine Ct ‹_› ?_|refine Cf ‹_› ?_|refine Ct rfl ?_|refine Cf rfl ?_|refine Bi rfl ?_|refine Bz rfl ?_|refine Lr ?_);conv=>whnf))
    (refine CallQ_some (F_l1Read (gB (spB (gB (spB t 10) 0) 32) 3) (Nat.le_trans (spB_sz 3) hl0)) ?_ ?_ ?_; rfl; rfl); ((conv=>whnf);repeat((first|refine Ct ‹_› ?_|refine Cf ‹_› ?_|refine Ct rfl ?_|refine Cf rfl ?_|refine Bi rfl ?_|refine Bz rfl ?_|refine Lr ?_);conv=>whnf))
    refine Rw_i (rwU []) (rwU_nil _) ?_
    ((conv=>whnf);repeat((first|refine Ct ‹_› ?_|refine Cf ‹_› ?_|refine Ct rfl ?_|refine Cf rfl ?_|refine Bi rfl ?_|refine Bz rfl ?_|refine Lr ?_);conv=>whnf))
    refine WLoop_v2 ⟨[1, 2, 4, 6, 8, 32, 33], [2, 4, 8], [(31, 6)]⟩ (fun (i : Int) (us : List Unt) => hdS 93 [(1, .v (vS t)), (2, .v (.one (.box 2 0))), (4, .v (.one (.box 4 0))), (6, .v (.one (.own (vkey 6) (spB t 10).length))), (8, .v (.one (.box 8 0))), (31, .v (.one (.own (vkey 6) (spB t 10).length))), (32, .v (vI (spB t 10).length)), (33, .v (vI i))] [(2, b.cs), (4, [cI 0, cI 0, .ro 4 0 nog]), (8, [cI (rdS (gB (spB (gB (spB t 10) 0) 32) 1)), cI (rdS (gB (spB (gB (spB t 10) 0) 32) 3)), .own (bkey 8 2) us.length])] [(bkey 8 2, rwU us), (vkey 6, rwS (spB t 10))])
      (fun n i us => 0 ≤ i ∧ i + n = (spB t 10).length ∧ us.length ≤ i ∧ pus (puS b) (midL t) = (pus (puS b) ((midL t).drop (i.toNat - 1))).map (us ++ ·) ∧ ∀ u ∈ us, u.Ok) (spB t 10).length 0 [] rfl ⟨by omega, by omega, by simp, by simp, by simp⟩ ?_
    rintro n i us ⟨h1, h2, h3, h5, h6⟩
    have hln := spB_ln t 10
    ((conv=>whnf);repeat((first|refine Ct ‹_› ?_|refine Cf ‹_› ?_|refine Ct rfl ?_|refine Cf rfl ?_|refine Bi rfl ?_|refine Bz rfl ?_|refine Lr ?_);conv=>whnf))
    refine Cnd_i (fun g => ?_) (fun g => ?_)
    · have ht := of_decide_eq_true g
      ((conv=>whnf);repeat((first|refine Ct ‹_› ?_|refine Cf ‹_› ?_|refine Ct rfl ?_|refine Cf rfl ?_|refine Bi rfl ?_|refine Bz rfl ?_|refine Lr ?_);conv=>whnf))
      refine Bnd_i (⟨h1, ht⟩) ?_; ((conv=>whnf);repeat((first|refine Ct ‹_› ?_|refine Cf ‹_› ?_|refine Ct rfl ?_|refine Cf rfl ?_|refine Bi rfl ?_|refine Bz rfl ?_|refine Lr ?_);conv=>whnf))
      by_cases e0 : i = 0
      · have q0 : (i == 0) = true := by rw [e0]; rfl
        refine Cnd_t q0 ?_
        ((conv=>whnf);repeat((first|refine Ct ‹_› ?_|refine Cf ‹_› ?_|refine Ct rfl ?_|refine Cf rfl ?_|refine Bi rfl ?_|refine Bz rfl ?_|refine Lr ?_);conv=>whnf))
        refine ⟨n - 1, i + 1, us, ?_, by omega, by omega, by omega, by omega, ?_, h6⟩
        · rw [wrapI (by omega)]; rfl
        · rw [h5, show (i + 1).toNat - 1 = i.toNat - 1 by omega]
      · have q0 : (i == 0) = false := beq_eq_false_iff_ne.2 e0
        refine Cnd_f q0 ?_
        ((conv=>whnf);repeat((first|refine Ct ‹_› ?_|refine Cf ‹_› ?_|refine Ct rfl ?_|refine Cf rfl ?_|refine Bi rfl ?_|refine Bz rfl ?_|refine Lr ?_);conv=>whnf))
        have hw : IntKind.i64.wrap (((spB t 10).length : Int) - 1) = (spB t 10).length - 1 := wrapI (by omega)
        by_cases e1 : i = (spB t 10).length - 1
        · refine Cnd_t (beq_iff_eq.2 (e1.trans hw.symm)) ?_
          ((conv=>whnf);repeat((first|refine Ct ‹_› ?_|refine Cf ‹_› ?_|refine Ct rfl ?_|refine Cf rfl ?_|refine Bi rfl ?_|refine Bz rfl ?_|refine Lr ?_);conv=>whnf))
          refine ⟨n - 1, i + 1, us, ?_, by omega, by omega, by omega, by omega, ?_, h6⟩
          · rw [wrapI (by omega)]; rfl
          · rw [h5, List.drop_of_length_le (by rw [mid_len]; omega), List.drop_of_length_le (by rw [mid_len]; omega)]
        · refine Cnd_f (beq_eq_false_iff_ne.2 (fun e => e1 (e.trans hw))) ?_
          ((conv=>whnf);repeat((first|refine Ct ‹_› ?_|refine Cf ‹_› ?_|refine Ct rfl ?_|refine Cf rfl ?_|refine Bi rfl ?_|refine Bz rfl ?_|refine Lr ?_);conv=>whnf))
          have hli : (gB (spB t 10) i.toNat).size ≤ 1048576 := Nat.le_trans (spB_sz _) hl
          have hd := mid_at t (i := i.toNat) (by omega) (by omega)
          (refine CallQ_some (F_l1Split (gB (spB t 10) i.toNat) 32 hli) ?_ ?_ ?_; rfl; rfl); ((conv=>whnf);repeat((first|refine Ct ‹_› ?_|refine Cf ‹_› ?_|refine Ct rfl ?_|refine Cf rfl ?_|refine Bi rfl ?_|refine Bz rfl ?_|refine Lr ?_);conv=>whnf))
          by_cases h7 : (spB (gB (spB t 10) i.toNat) 32).length = 4
          · have hp : puS b (gB (spB t 10) i.toNat) = some _ := if_pos h7
            refine Cnd_f (by rw [h7]; rfl) ?_
            ((conv=>whnf);repeat((first|refine Ct ‹_› ?_|refine Cf ‹_› ?_|refine Ct rfl ?_|refine Cf rfl ?_|refine Bi rfl ?_|refine Bz rfl ?_|refine Lr ?_);conv=>whnf))
            refine Bnd_i (⟨by omega, by omega⟩) ?_; ((conv=>whnf);repeat((first|refine Ct ‹_› ?_|refine Cf ‹_› ?_|refine Ct rfl ?_|refine Cf rfl ?_|refine Bi rfl ?_|refine Bz rfl ?_|refine Lr ?_);conv=>whnf))
            (refine CallQ_some (F_l1Read (gB (spB (gB (spB t 10) i.toNat) 32) 0) (Nat.le_trans (spB_sz 0) hli)) ?_ ?_ ?_; rfl; rfl); ((conv=>whnf);repeat((first|refine Ct ‹_› ?_|refine Cf ‹_› ?_|refine Ct rfl ?_|refine Cf rfl ?_|refine Bi rfl ?_|refine Bz rfl ?_|refine Lr ?_);conv=>whnf))
            refine Bnd_i (⟨by omega, by omega⟩) ?_; ((conv=>whnf);repeat((first|refine Ct ‹_› ?_|refine Cf ‹_› ?_|refine Ct rfl ?_|refine Cf rfl ?_|refine Bi rfl ?_|refine Bz rfl ?_|refine Lr ?_);conv=>whnf))
            (refine CallQ_some (F_rKind b.r.knd (gB (spB (gB (spB t 10) i.toNat) 32) 1) hk) ?_ ?_ ?_; rfl; rfl); ((conv=>whnf);repeat((first|refine Ct ‹_› ?_|refine Cf ‹_› ?_|refine Ct rfl ?_|refine Cf rfl ?_|refine Bi rfl ?_|refine Bz rfl ?_|refine Lr ?_);conv=>whnf))
            refine Bnd_i (⟨by omega, by omega⟩) ?_; ((conv=>whnf);repeat((first|refine Ct ‹_› ?_|refine Cf ‹_› ?_|refine Ct rfl ?_|refine Cf rfl ?_|refine Bi rfl ?_|refine Bz rfl ?_|refine Lr ?_);conv=>whnf))
            (refine CallQ_some (F_l1Read (gB (spB (gB (spB t 10) i.toNat) 32) 2) (Nat.le_trans (spB_sz 2) hli)) ?_ ?_ ?_; rfl; rfl); ((conv=>whnf);repeat((first|refine Ct ‹_› ?_|refine Cf ‹_› ?_|refine Ct rfl ?_|refine Cf rfl ?_|refine Bi rfl ?_|refine Bz rfl ?_|refine Lr ?_);conv=>whnf))
            refine Bnd_i (⟨by omega, by omega⟩) ?_; ((conv=>whnf);repeat((first|refine Ct ‹_› ?_|refine Cf ‹_› ?_|refine Ct rfl ?_|refine Cf rfl ?_|refine Bi rfl ?_|refine Bz rfl ?_|refine Lr ?_);conv=>whnf))
            (refine CallQ_some (F_l1Read (gB (spB (gB (spB t 10) i.toNat) 32) 3) (Nat.le_trans (spB_sz 3) hli)) ?_ ?_ ?_; rfl; rfl); ((conv=>whnf);repeat((first|refine Ct ‹_› ?_|refine Cf ‹_› ?_|refine Ct rfl ?_|refine Cf rfl ?_|refine Bi rfl ?_|refine Bz rfl ?_|refine Lr ?_);conv=>whnf))
            refine Rw_self ?_
            ((conv=>whnf);repeat((first|refine Ct ‹_› ?_|refine Cf ‹_› ?_|refine Ct rfl ?_|refine Cf rfl ?_|refine Bi rfl ?_|refine Bz rfl ?_|refine Lr ?_);conv=>whnf))
            refine Bnd_i (by show us.length + 1 < _; omega) ?_
            ((conv=>whnf);repeat((first|refine Ct ‹_› ?_|refine Cf ‹_› ?_|refine Ct rfl ?_|refine Cf rfl ?_|refine Bi rfl ?_|refine Bz rfl ?_|refine Lr ?_);conv=>whnf))
            refine Rw_i (rwU (us ++ [⟨rdS (gB (spB (gB (spB t 10) i.toNat) 32) 0), fi (fun t' => nameIs t'.name (gB (spB (gB (spB t 10) i.toNat) 32) 1)) b.r.knd, rdS (gB (spB (gB (spB t 10) i.toNat) 32) 2), rdS (gB (spB (gB (spB t 10) i.toNat) 32) 3)⟩])) (rwU_app _ _ _ (lt4 rfl rfl rfl rfl)) ?_
            ((conv=>whnf);repeat((first|refine Ct ‹_› ?_|refine Cf ‹_› ?_|refine Ct rfl ?_|refine Cf rfl ?_|refine Bi rfl ?_|refine Bz rfl ?_|refine Lr ?_);conv=>whnf))
            refine ⟨n - 1, i + 1, us ++ [⟨rdS (gB (spB (gB (spB t 10) i.toNat) 32) 0), fi (fun t' => nameIs t'.name (gB (spB (gB (spB t 10) i.toNat) 32) 1)) b.r.knd, rdS (gB (spB (gB (spB t 10) i.toNat) 32) 2), rdS (gB (spB (gB (spB t 10) i.toNat) 32) 3)⟩], ?_, by omega, by omega, by omega, by simp; omega, ?_, fun u hu => ?_⟩
            · rw [wrapI (by omega)]; rfl
            · rw [h5, hd, pus_some hp, Option.map_map, show (i + 1).toNat - 1 = i.toNat by omega]
              congr 1
              funext x
              simp
            · rcases List.mem_append.1 hu with hu | hu
              · exact h6 u hu
              · rw [List.mem_singleton] at hu
                subst hu
                exact ⟨rd_i64 _, fi_i64 _ hk, rd_i64 _, rd_i64 _⟩
          · have hp : puS b (gB (spB t 10) i.toNat) = none := if_neg h7
            refine Cnd_t (bne_iff_ne.2 (by omega)) ?_
            ((conv=>whnf);repeat((first|refine Ct ‹_› ?_|refine Cf ‹_› ?_|refine Ct rfl ?_|refine Cf rfl ?_|refine Bi rfl ?_|refine Bz rfl ?_|refine Lr ?_);conv=>whnf))
            have e : psS b t = none := by rw [psS, if_pos h4, h5, hd, pus_none hp]; rfl
            rw [e]
            exact ⟨rfl, rfl, rfl⟩
    · have ht := of_decide_eq_false g
      have e : psS b t = some ⟨rdS (gB (spB (gB (spB t 10) 0) 32) 1), rdS (gB (spB (gB (spB t 10) 0) 32) 3), us⟩ := by
        rw [psS, if_pos h4, h5, List.drop_of_length_le (by rw [mid_len]; omega)]
        simp [pus]
      have hS : (⟨rdS (gB (spB (gB (spB t 10) 0) 32) 1), rdS (gB (spB (gB (spB t 10) 0) 32) 3), us⟩ : Stt).Ok := ⟨rd_i64 _, rd_i64 _, by show us.length ≤ 9223372036854775807; omega, h6⟩
      rw [e]
      generalize rdS (gB (spB (gB (spB t 10) 0) 32) 1) = tu at hS ⊢
      generalize rdS (gB (spB (gB (spB t 10) 0) 32) 3) = we at hS ⊢
      clear h5 e
      ((conv=>whnf);repeat((first|refine Ct ‹_› ?_|refine Cf ‹_› ?_|refine Ct rfl ?_|refine Cf rfl ?_|refine Bi rfl ?_|refine Bz rfl ?_|refine Lr ?_);conv=>whnf))
      refine CallQ_eq (snapP tu we us rfl b) ?_
      (refine CallQ_some (F_sGood b ho ⟨tu, we, us⟩ hS) ?_ ?_ ?_; rfl; rfl); ((conv=>whnf);repeat((first|refine Ct ‹_› ?_|refine Cf ‹_› ?_|refine Ct rfl ?_|refine Cf rfl ?_|refine Bi rfl ?_|refine Bz rfl ?_|refine Lr ?_);conv=>whnf))
      by_cases e2 : (okBrd b && okSt b ⟨tu, we, us⟩) = true
      · have q2 : (!(okBrd b && okSt b ⟨tu, we, us⟩)) = false := by rw [e2]; rfl
        refine Cnd_f q2 ?_
        ((conv=>whnf);repeat((first|refine Ct ‹_› ?_|refine Cf ‹_› ?_|refine Ct rfl ?_|refine Cf rfl ?_|refine Bi rfl ?_|refine Bz rfl ?_|refine Lr ?_);conv=>whnf))
        refine CallQ_eq (snapP tu we us rfl b) ?_
        (refine CallQ_some (F_sText b ho ⟨tu, we, us⟩ hS (StOk.of ho e2)) ?_ ?_ ?_; rfl; rfl); ((conv=>whnf);repeat((first|refine Ct ‹_› ?_|refine Cf ‹_› ?_|refine Ct rfl ?_|refine Cf rfl ?_|refine Bi rfl ?_|refine Bz rfl ?_|refine Lr ?_);conv=>whnf))
        refine Cnd_i (fun g2 => ?_) (fun g2 => ?_)
        · ((conv=>whnf);repeat((first|refine Ct ‹_› ?_|refine Cf ‹_› ?_|refine Ct rfl ?_|refine Cf rfl ?_|refine Bi rfl ?_|refine Bz rfl ?_|refine Lr ?_);conv=>whnf))
          have e3 : nameIs (stT b ⟨tu, we, us⟩) t = false := by
            have : (!(nameIs (stT b ⟨tu, we, us⟩) t)) = true := g2
            simpa using this
          rw [show fin b t (some ⟨tu, we, us⟩) = none from if_neg (fun h => by rw [e3] at h; cases h.2)]
          exact ⟨rfl, rfl, rfl⟩
        · ((conv=>whnf);repeat((first|refine Ct ‹_› ?_|refine Cf ‹_› ?_|refine Ct rfl ?_|refine Cf rfl ?_|refine Bi rfl ?_|refine Bz rfl ?_|refine Lr ?_);conv=>whnf))
          have e3 : nameIs (stT b ⟨tu, we, us⟩) t = true := by
            have : (!(nameIs (stT b ⟨tu, we, us⟩) t)) = false := g2
            simpa using this
          rw [show fin b t (some ⟨tu, we, us⟩) = some ⟨tu, we, us⟩ from if_pos ⟨e2, e3⟩]
          exact ⟨rfl, rfl, rfl⟩
      · have e2' : (okBrd b && okSt b ⟨tu, we, us⟩) = false := by cases hh : (okBrd b && okSt b ⟨tu, we, us⟩) with
          | false => rfl
          | true => exact absurd hh e2
        have q2 : (!(okBrd b && okSt b ⟨tu, we, us⟩)) = true := by rw [e2']; rfl
        refine Cnd_t q2 ?_
        ((conv=>whnf);repeat((first|refine Ct ‹_› ?_|refine Cf ‹_› ?_|refine Ct rfl ?_|refine Cf rfl ?_|refine Bi rfl ?_|refine Bz rfl ?_|refine Lr ?_);conv=>whnf))
        rw [show fin b t (some ⟨tu, we, us⟩) = none from if_neg (fun h => e2 h.1)]
        exact ⟨rfl, rfl, rfl⟩
  · refine Cnd_t (bne_iff_ne.2 (by omega)) ?_
    ((conv=>whnf);repeat((first|refine Ct ‹_› ?_|refine Cf ‹_› ?_|refine Ct rfl ?_|refine Cf rfl ?_|refine Bi rfl ?_|refine Bz rfl ?_|refine Lr ?_);conv=>whnf))
    have e : psS b t = none := if_neg h4
    rw [e]
    exact ⟨rfl, rfl, rfl⟩

theorem fin_no {b : Brd} (h : okBrd b = false) (t : ByteArray) (p : Option Stt) : fin b t p = none := by
  cases p with
  | none => rfl
  | some s => exact if_neg (fun hh => by rw [h] at hh; cases hh.1)

theorem F_ParseState (b : Brd) (ho : b.Ok) (t : ByteArray) (hl : t.size ≤ 1048576) : Fun E0 6 [.agg b.cs, vS t] [] (resT (fin b t (psS b t))) (resO (fin b t (psS b t))) [] := by
  by_cases hb : okBrd b = true
  · have h := F_sParse b ho t hl hb
    revert h
    cases hp : fin b t (psS b t) with
    | none =>
      intro h
      have h : Fun E0 21 [.agg b.cs, vS t] [] (zR 0 0 false) [] [] := h
      refine Fun_of_xc k6 rfl rfl (resO_no none) ?_
      ((conv=>whnf);repeat((first|refine Ct ‹_› ?_|refine Cf ‹_› ?_|refine Ct rfl ?_|refine Cf rfl ?_|refine Bi rfl ?_|refine Bz rfl ?_|refine Lr ?_);conv=>whnf))
      (refine CallQ_some (F_bGood b ho) ?_ ?_ ?_; rfl; rfl); ((conv=>whnf);repeat((first|refine Ct ‹_› ?_|refine Cf ‹_› ?_|refine Ct rfl ?_|refine Cf rfl ?_|refine Bi rfl ?_|refine Bz rfl ?_|refine Lr ?_);conv=>whnf))
      refine Cnd_f (by rw [hb]; rfl) ?_
      ((conv=>whnf);repeat((first|refine Ct ‹_› ?_|refine Cf ‹_› ?_|refine Ct rfl ?_|refine Cf rfl ?_|refine Bi rfl ?_|refine Bz rfl ?_|refine Lr ?_);conv=>whnf))
      (refine CallQ_some (h) ?_ ?_ ?_; rfl; rfl); ((conv=>whnf);repeat((first|refine Ct ‹_› ?_|refine Cf ‹_› ?_|refine Ct rfl ?_|refine Cf rfl ?_|refine Bi rfl ?_|refine Bz rfl ?_|refine Lr ?_);conv=>whnf))
      exact ⟨rfl, rfl, rfl⟩
    | some s =>
      intro h
      have h : Fun E0 21 [.agg b.cs, vS t] [] (oR s true) [(2, rwU s.un)] [] := h
      refine Fun_of_xc k6 rfl rfl (resO_no (some s)) ?_
      ((conv=>whnf);repeat((first|refine Ct ‹_› ?_|refine Cf ‹_› ?_|refine Ct rfl ?_|refine Cf rfl ?_|refine Bi rfl ?_|refine Bz rfl ?_|refine Lr ?_);conv=>whnf))
      (refine CallQ_some (F_bGood b ho) ?_ ?_ ?_; rfl; rfl); ((conv=>whnf);repeat((first|refine Ct ‹_› ?_|refine Cf ‹_› ?_|refine Ct rfl ?_|refine Cf rfl ?_|refine Bi rfl ?_|refine Bz rfl ?_|refine Lr ?_);conv=>whnf))
      refine Cnd_f (by rw [hb]; rfl) ?_
      ((conv=>whnf);repeat((first|refine Ct ‹_› ?_|refine Cf ‹_› ?_|refine Ct rfl ?_|refine Cf rfl ?_|refine Bi rfl ?_|refine Bz rfl ?_|refine Lr ?_);conv=>whnf))
      (refine CallQ_some (h) ?_ ?_ ?_; rfl; rfl); ((conv=>whnf);repeat((first|refine Ct ‹_› ?_|refine Cf ‹_› ?_|refine Ct rfl ?_|refine Cf rfl ?_|refine Bi rfl ?_|refine Bz rfl ?_|refine Lr ?_);conv=>whnf))
      exact ⟨rfl, rfl, rfl⟩
  · have hb : okBrd b = false := by simpa using hb
    rw [fin_no hb]
    refine Fun_of_xc k6 rfl rfl (resO_no none) ?_
    ((conv=>whnf);repeat((first|refine Ct ‹_› ?_|refine Cf ‹_› ?_|refine Ct rfl ?_|refine Cf rfl ?_|refine Bi rfl ?_|refine Bz rfl ?_|refine Lr ?_);conv=>whnf))
    (refine CallQ_some (F_bGood b ho) ?_ ?_ ?_; rfl; rfl); ((conv=>whnf);repeat((first|refine Ct ‹_› ?_|refine Cf ‹_› ?_|refine Ct rfl ?_|refine Cf rfl ?_|refine Bi rfl ?_|refine Bz rfl ?_|refine Lr ?_);conv=>whnf))
    refine Cnd_t (by rw [hb]; rfl) ?_
    ((conv=>whnf);repeat((first|refine Ct ‹_› ?_|refine Cf ‹_› ?_|refine Ct rfl ?_|refine Cf rfl ?_|refine Bi rfl ?_|refine Bz rfl ?_|refine Lr ?_);conv=>whnf))
    exact ⟨rfl, rfl, rfl⟩

abbrev minus : ByteArray := ⟨#[45]⟩

noncomputable def atW (w : ByteArray) : Int × Bool := if nameIs w minus = true then (-1, true) else rdI w

abbrev zU : Unt := ⟨0, 0, 0, 0⟩

noncomputable def puI (b : Brd) (line : ByteArray) : Unt × Bool :=
  if (spB line 32).length = 4 then (⟨(rdI (gB (spB line 32) 0)).1, fi (fun t => nameIs t.name (gB (spB line 32) 1)) b.r.knd, (atW (gB (spB line 32) 2)).1, (rdI (gB (spB line 32) 3)).1⟩,
    (rdI (gB (spB line 32) 0)).2 && (rdI (gB (spB line 32) 3)).2 && (atW (gB (spB line 32) 2)).2) else (zU, false)

theorem F_readUnit (b : Brd) (ho : b.Ok) (line : ByteArray) (hl : line.size ≤ 1048576) : Fun E0 27 [.agg b.cs, vS line] [] (.tup [.agg (puI b line).1.cs, vB (puI b line).2]) [] [] := by
  have hk : b.r.knd.length ≤ maxLen := ho.r.lknd
  refine Fun_of_xc k27 rfl rfl (fun k q h => by cases h) ?_
  ((conv=>whnf);repeat((first|refine Ct ‹_› ?_|refine Cf ‹_› ?_|refine Ct rfl ?_|refine Cf rfl ?_|refine Bi rfl ?_|refine Bz rfl ?_|refine Lr ?_);conv=>whnf))
  (refine CallQ_some (F_Split line 32 hl) ?_ ?_ ?_; rfl; rfl); ((conv=>whnf);repeat((first|refine Ct ‹_› ?_|refine Cf ‹_› ?_|refine Ct rfl ?_|refine Cf rfl ?_|refine Bi rfl ?_|refine Bz rfl ?_|refine Lr ?_);conv=>whnf))
  by_cases h4 : (spB line 32).length = 4
  · refine Cnd_f (by rw [h4]; rfl) ?_
    have ep : puI b line = (_, _) := if_pos h4
    ((conv=>whnf);repeat((first|refine Ct ‹_› ?_|refine Cf ‹_› ?_|refine Ct rfl ?_|refine Cf rfl ?_|refine Bi rfl ?_|refine Bz rfl ?_|refine Lr ?_);conv=>whnf))
    refine Bnd_i (⟨by omega, by omega⟩) ?_; ((conv=>whnf);repeat((first|refine Ct ‹_› ?_|refine Cf ‹_› ?_|refine Ct rfl ?_|refine Cf rfl ?_|refine Bi rfl ?_|refine Bz rfl ?_|refine Lr ?_);conv=>whnf))
    (refine CallQ_some (F_readInt (gB (spB line 32) 0) (Nat.le_trans (spB_sz 0) hl)) ?_ ?_ ?_; rfl; rfl); ((conv=>whnf);repeat((first|refine Ct ‹_› ?_|refine Cf ‹_› ?_|refine Ct rfl ?_|refine Cf rfl ?_|refine Bi rfl ?_|refine Bz rfl ?_|refine Lr ?_);conv=>whnf))
    refine Bnd_i (⟨by omega, by omega⟩) ?_; ((conv=>whnf);repeat((first|refine Ct ‹_› ?_|refine Cf ‹_› ?_|refine Ct rfl ?_|refine Cf rfl ?_|refine Bi rfl ?_|refine Bz rfl ?_|refine Lr ?_);conv=>whnf))
    (refine CallQ_some (F_readInt (gB (spB line 32) 3) (Nat.le_trans (spB_sz 3) hl)) ?_ ?_ ?_; rfl; rfl); ((conv=>whnf);repeat((first|refine Ct ‹_› ?_|refine Cf ‹_› ?_|refine Ct rfl ?_|refine Cf rfl ?_|refine Bi rfl ?_|refine Bz rfl ?_|refine Lr ?_);conv=>whnf))
    refine Bnd_i (⟨by omega, by omega⟩) ?_; ((conv=>whnf);repeat((first|refine Ct ‹_› ?_|refine Cf ‹_› ?_|refine Ct rfl ?_|refine Cf rfl ?_|refine Bi rfl ?_|refine Bz rfl ?_|refine Lr ?_);conv=>whnf))
    refine Cnd_i (fun g => ?_) (fun g => ?_)
    · have hm : nameIs (gB (spB line 32) 2) minus = false := by
        have : (!(nameIs (gB (spB line 32) 2) minus)) = true := g
        simpa using this
      have ea : atW (gB (spB line 32) 2) = rdI (gB (spB line 32) 2) := if_neg (by rw [hm]; simp)
      rw [ea] at ep
      ((conv=>whnf);repeat((first|refine Ct ‹_› ?_|refine Cf ‹_› ?_|refine Ct rfl ?_|refine Cf rfl ?_|refine Bi rfl ?_|refine Bz rfl ?_|refine Lr ?_);conv=>whnf))
      refine Bnd_i (⟨by omega, by omega⟩) ?_; ((conv=>whnf);repeat((first|refine Ct ‹_› ?_|refine Cf ‹_› ?_|refine Ct rfl ?_|refine Cf rfl ?_|refine Bi rfl ?_|refine Bz rfl ?_|refine Lr ?_);conv=>whnf))
      (refine CallQ_some (F_readInt (gB (spB line 32) 2) (Nat.le_trans (spB_sz 2) hl)) ?_ ?_ ?_; rfl; rfl); ((conv=>whnf);repeat((first|refine Ct ‹_› ?_|refine Cf ‹_› ?_|refine Ct rfl ?_|refine Cf rfl ?_|refine Bi rfl ?_|refine Bz rfl ?_|refine Lr ?_);conv=>whnf))
      refine Bnd_i (⟨by omega, by omega⟩) ?_; ((conv=>whnf);repeat((first|refine Ct ‹_› ?_|refine Cf ‹_› ?_|refine Ct rfl ?_|refine Cf rfl ?_|refine Bi rfl ?_|refine Bz rfl ?_|refine Lr ?_);conv=>whnf))
      (refine CallQ_some (F_kindIndex b.r.knd (gB (spB line 32) 1) hk) ?_ ?_ ?_; rfl; rfl); ((conv=>whnf);repeat((first|refine Ct ‹_› ?_|refine Cf ‹_› ?_|refine Ct rfl ?_|refine Cf rfl ?_|refine Bi rfl ?_|refine Bz rfl ?_|refine Lr ?_);conv=>whnf))
      refine Cnd_i (fun g1 => ?_) (fun g1 => ?_)
      · ((conv=>whnf);repeat((first|refine Ct ‹_› ?_|refine Cf ‹_› ?_|refine Ct rfl ?_|refine Cf rfl ?_|refine Bi rfl ?_|refine Bz rfl ?_|refine Lr ?_);conv=>whnf))
        refine Cnd_i (fun g2 => ?_) (fun g2 => ?_)
        · ((conv=>whnf);repeat((first|refine Ct ‹_› ?_|refine Cf ‹_› ?_|refine Ct rfl ?_|refine Cf rfl ?_|refine Bi rfl ?_|refine Bz rfl ?_|refine Lr ?_);conv=>whnf))
          rw [g1, g2] at ep
          rw [ep]
          exact ⟨rfl, rfl, rfl⟩
        · ((conv=>whnf);repeat((first|refine Ct ‹_› ?_|refine Cf ‹_› ?_|refine Ct rfl ?_|refine Cf rfl ?_|refine Bi rfl ?_|refine Bz rfl ?_|refine Lr ?_);conv=>whnf))
          rw [g1, g2] at ep
          rw [ep]
          exact ⟨rfl, rfl, rfl⟩
      · ((conv=>whnf);repeat((first|refine Ct ‹_› ?_|refine Cf ‹_› ?_|refine Ct rfl ?_|refine Cf rfl ?_|refine Bi rfl ?_|refine Bz rfl ?_|refine Lr ?_);conv=>whnf))
        rw [g1] at ep
        rw [ep]
        exact ⟨rfl, rfl, rfl⟩
    · have hm : nameIs (gB (spB line 32) 2) minus = true := by
        have : (!(nameIs (gB (spB line 32) 2) minus)) = false := g
        simpa using this
      have ea : atW (gB (spB line 32) 2) = (-1, true) := if_pos hm
      rw [ea] at ep
      ((conv=>whnf);repeat((first|refine Ct ‹_› ?_|refine Cf ‹_› ?_|refine Ct rfl ?_|refine Cf rfl ?_|refine Bi rfl ?_|refine Bz rfl ?_|refine Lr ?_);conv=>whnf))
      refine Bnd_i (⟨by omega, by omega⟩) ?_; ((conv=>whnf);repeat((first|refine Ct ‹_› ?_|refine Cf ‹_› ?_|refine Ct rfl ?_|refine Cf rfl ?_|refine Bi rfl ?_|refine Bz rfl ?_|refine Lr ?_);conv=>whnf))
      (refine CallQ_some (F_kindIndex b.r.knd (gB (spB line 32) 1) hk) ?_ ?_ ?_; rfl; rfl); ((conv=>whnf);repeat((first|refine Ct ‹_› ?_|refine Cf ‹_› ?_|refine Ct rfl ?_|refine Cf rfl ?_|refine Bi rfl ?_|refine Bz rfl ?_|refine Lr ?_);conv=>whnf))
      refine Cnd_i (fun g1 => ?_) (fun g1 => ?_)
      · ((conv=>whnf);repeat((first|refine Ct ‹_› ?_|refine Cf ‹_› ?_|refine Ct rfl ?_|refine Cf rfl ?_|refine Bi rfl ?_|refine Bz rfl ?_|refine Lr ?_);conv=>whnf))
        refine Cnd_i (fun g2 => ?_) (fun g2 => ?_)
        · ((conv=>whnf);repeat((first|refine Ct ‹_› ?_|refine Cf ‹_› ?_|refine Ct rfl ?_|refine Cf rfl ?_|refine Bi rfl ?_|refine Bz rfl ?_|refine Lr ?_);conv=>whnf))
          rw [g1, g2] at ep
          rw [ep]
          exact ⟨rfl, rfl, rfl⟩
        · ((conv=>whnf);repeat((first|refine Ct ‹_› ?_|refine Cf ‹_› ?_|refine Ct rfl ?_|refine Cf rfl ?_|refine Bi rfl ?_|refine Bz rfl ?_|refine Lr ?_);conv=>whnf))
          rw [g1, g2] at ep
          rw [ep]
          exact ⟨rfl, rfl, rfl⟩
      · ((conv=>whnf);repeat((first|refine Ct ‹_› ?_|refine Cf ‹_› ?_|refine Ct rfl ?_|refine Cf rfl ?_|refine Bi rfl ?_|refine Bz rfl ?_|refine Lr ?_);conv=>whnf))
        rw [g1] at ep
        rw [ep]
        exact ⟨rfl, rfl, rfl⟩
  · refine Cnd_t (bne_iff_ne.2 (by omega)) ?_
    ((conv=>whnf);repeat((first|refine Ct ‹_› ?_|refine Cf ‹_› ?_|refine Ct rfl ?_|refine Cf rfl ?_|refine Bi rfl ?_|refine Bz rfl ?_|refine Lr ?_);conv=>whnf))
    have e : puI b line = (zU, false) := if_neg h4
    rw [e]
    exact ⟨rfl, rfl, rfl⟩

noncomputable def poI (b : Brd) (l : ByteArray) : Option Unt := if (puI b l).2 = true then some (puI b l).1 else none

noncomputable def psI (b : Brd) (t : ByteArray) : Option Stt :=
  if (spB (gB (spB t 10) 0) 32).length = 4 then
    if (rdI (gB (spB (gB (spB t 10) 0) 32) 1)).2 = true ∧ (rdI (gB (spB (gB (spB t 10) 0) 32) 3)).2 = true then
      (pus (poI b) (midL t)).map fun us => ⟨(rdI (gB (spB (gB (spB t 10) 0) 32) 1)).1, (rdI (gB (spB (gB (spB t 10) 0) 32) 3)).1, us⟩
    else none
  else none

theorem rdI_i64 (s : ByteArray) : i64 (rdI s).1 := by
  unfold rdI
  split
  · rename_i v h
    obtain ⟨b0, b1⟩ := Lib.atoiAll_bounds h
    split
    · exact ⟨by decide, by decide⟩
    · exact ⟨b0, b1⟩
  · exact ⟨by decide, by decide⟩

theorem atW_i64 (s : ByteArray) : i64 (atW s).1 := by
  unfold atW
  split
  · exact ⟨by decide, by decide⟩
  · exact rdI_i64 s

theorem puI_ok (b : Brd) (l : ByteArray) (hk : b.r.knd.length ≤ maxLen) : (puI b l).1.Ok := by
  unfold puI
  split
  · exact ⟨rdI_i64 _, fi_i64 _ hk, atW_i64 _, rdI_i64 _⟩
  · exact ⟨⟨by decide, by decide⟩, ⟨by decide, by decide⟩, ⟨by decide, by decide⟩, ⟨by decide, by decide⟩⟩

theorem mid_get (t : ByteArray) (i : Nat) : i < (midL t).length → (midL t).getD i ⟨#[]⟩ = gB (spB t 10) (i + 1) := by
  intro h
  have hl := mid_len t
  rw [List.getD_eq_getElem?_getD, List.getElem?_eq_getElem h, gB, List.getD_eq_getElem?_getD, List.getElem?_eq_getElem (by omega)]
  simp only [midL]
  rw [Option.getD_some, Option.getD_some, List.getElem_dropLast, List.getElem_drop]
  congr 1
  omega

theorem F_ParseStateI (b : Brd) (ho : b.Ok) (t : ByteArray) (hl : t.size ≤ 1048576) : Fun E0 8 [.agg b.cs, vS t] [] (resT (fin b t (psI b t))) (resO (fin b t (psI b t))) [] := by
  have hk : b.r.knd.length ≤ maxLen := ho.r.lknd
  refine Fun_of_xc k8 (resO_ok _) rfl (resO_no _) ?_
  ((conv=>whnf);repeat((first|refine Ct ‹_› ?_|refine Cf ‹_› ?_|refine Ct rfl ?_|refine Cf rfl ?_|refine Bi rfl ?_|refine Bz rfl ?_|refine Lr ?_);conv=>whnf))
  (refine CallQ_some (F_IsBoard b ho) ?_ ?_ ?_; rfl; rfl); ((conv=>whnf);repeat((first|refine Ct ‹_› ?_|refine Cf ‹_› ?_|refine Ct rfl ?_|refine Cf rfl ?_|refine Bi rfl ?_|refine Bz rfl ?_|refine Lr ?_);conv=>whnf))
  by_cases hb : okBrd b = true
  · refine Cnd_f (by rw [hb]; rfl) ?_
    ((conv=>whnf);repeat((first|refine Ct ‹_› ?_|refine Cf ‹_› ?_|refine Ct rfl ?_|refine Cf rfl ?_|refine Bi rfl ?_|refine Bz rfl ?_|refine Lr ?_);conv=>whnf))
    (refine CallQ_some (F_Split t 10 hl) ?_ ?_ ?_; rfl; rfl); ((conv=>whnf);repeat((first|refine Ct ‹_› ?_|refine Cf ‹_› ?_|refine Ct rfl ?_|refine Cf rfl ?_|refine Bi rfl ?_|refine Bz rfl ?_|refine Lr ?_);conv=>whnf))
    refine Bnd_i (⟨by omega, by have := spB_pos t 10; omega⟩) ?_; ((conv=>whnf);repeat((first|refine Ct ‹_› ?_|refine Cf ‹_› ?_|refine Ct rfl ?_|refine Cf rfl ?_|refine Bi rfl ?_|refine Bz rfl ?_|refine Lr ?_);conv=>whnf))
    have hl0 : (gB (spB t 10) 0).size ≤ 1048576 := Nat.le_trans (spB_sz 0) hl
    (refine CallQ_some (F_Split (gB (spB t 10) 0) 32 hl0) ?_ ?_ ?_; rfl; rfl); ((conv=>whnf);repeat((first|refine Ct ‹_› ?_|refine Cf ‹_› ?_|refine Ct rfl ?_|refine Cf rfl ?_|refine Bi rfl ?_|refine Bz rfl ?_|refine Lr ?_);conv=>whnf))
    by_cases h4 : (spB (gB (spB t 10) 0) 32).length = 4
    · refine Cnd_f (by rw [h4]; rfl) ?_
      ((conv=>whnf);repeat((first|refine Ct ‹_› ?_|refine Cf ‹_› ?_|refine Ct rfl ?_|refine Cf rfl ?_|refine Bi rfl ?_|refine Bz rfl ?_|refine Lr ?_);conv=>whnf))
      refine Bnd_i (⟨by omega, by omega⟩) ?_; ((conv=>whnf);repeat((first|refine Ct ‹_› ?_|refine Cf ‹_› ?_|refine Ct rfl ?_|refine Cf rfl ?_|refine Bi rfl ?_|refine Bz rfl ?_|refine Lr ?_);conv=>whnf))
      (refine CallQ_some (F_readInt (gB (spB (gB (spB t 10) 0) 32) 1) (Nat.le_trans (spB_sz 1) hl0)) ?_ ?_ ?_; rfl; rfl); ((conv=>whnf);repeat((first|refine Ct ‹_› ?_|refine Cf ‹_› ?_|refine Ct rfl ?_|refine Cf rfl ?_|refine Bi rfl ?_|refine Bz rfl ?_|refine Lr ?_);conv=>whnf))
      refine Bnd_i (⟨by omega, by omega⟩) ?_; ((conv=>whnf);repeat((first|refine Ct ‹_› ?_|refine Cf ‹_› ?_|refine Ct rfl ?_|refine Cf rfl ?_|refine Bi rfl ?_|refine Bz rfl ?_|refine Lr ?_);conv=>whnf))
      (refine CallQ_some (F_readInt (gB (spB (gB (spB t 10) 0) 32) 3) (Nat.le_trans (spB_sz 3) hl0)) ?_ ?_ ?_; rfl; rfl); ((conv=>whnf);repeat((first|refine Ct ‹_› ?_|refine Cf ‹_› ?_|refine Ct rfl ?_|refine Cf rfl ?_|refine Bi rfl ?_|refine Bz rfl ?_|refine Lr ?_);conv=>whnf))
      refine Rw_i (rwU []) (rwU_nil _) ?_
      ((conv=>whnf);repeat((first|refine Ct ‹_› ?_|refine Cf ‹_› ?_|refine Ct rfl ?_|refine Cf rfl ?_|refine Bi rfl ?_|refine Bz rfl ?_|refine Lr ?_);conv=>whnf))
      by_cases o1 : (rdI (gB (spB (gB (spB t 10) 0) 32) 1)).2 = true
      · have q1 : (!(rdI (gB (spB (gB (spB t 10) 0) 32) 1)).2) = false := by rw [o1]; rfl
        refine Cnd_f q1 ?_
        ((conv=>whnf);repeat((first|refine Ct ‹_› ?_|refine Cf ‹_› ?_|refine Ct rfl ?_|refine Cf rfl ?_|refine Bi rfl ?_|refine Bz rfl ?_|refine Lr ?_);conv=>whnf))
        by_cases o2 : (rdI (gB (spB (gB (spB t 10) 0) 32) 3)).2 = true
        · have q2 : (!(rdI (gB (spB (gB (spB t 10) 0) 32) 3)).2) = false := by rw [o2]; rfl
          refine Cnd_f q2 ?_
          ((conv=>whnf);repeat((first|refine Ct ‹_› ?_|refine Cf ‹_› ?_|refine Ct rfl ?_|refine Cf rfl ?_|refine Bi rfl ?_|refine Bz rfl ?_|refine Lr ?_);conv=>whnf))
          have hln := spB_ln t 10
          have hps := spB_pos t 10
          have hml := mid_len t
          have hw : IntKind.i64.wrap (((spB t 10).length : Int) - 1) = (spB t 10).length - 1 := wrapI (by omega)
          have hmx : (if (1 : Int) > IntKind.i64.wrap (((spB t 10).length : Int) - 1) then (1 : Int) else IntKind.i64.wrap (((spB t 10).length : Int) - 1)) = ((midL t).length : Int) + 1 := by
            rw [hw, hml]; split <;> omega
          refine Bnd_i ⟨by omega, by rw [hmx]; omega, by rw [hmx]; omega⟩ ?_
          ((conv=>whnf);repeat((first|refine Ct ‹_› ?_|refine Cf ‹_› ?_|refine Ct rfl ?_|refine Cf rfl ?_|refine Bi rfl ?_|refine Bz rfl ?_|refine Lr ?_);conv=>whnf))
          refine Rw_i (rwS (midL t)) ⟨rfl, rfl, ?_, fun i j hi hj => ?_⟩ ?_
          · show (if (1 : Int) > IntKind.i64.wrap (((spB t 10).length : Int) - 1) then (1 : Int) else IntKind.i64.wrap (((spB t 10).length : Int) - 1)).toNat - 1 = (midL t).length
            rw [hmx]; omega
          · have hi : i < (if (1 : Int) > IntKind.i64.wrap (((spB t 10).length : Int) - 1) then (1 : Int) else IntKind.i64.wrap (((spB t 10).length : Int) - 1)).toNat - 1 := hi
            rw [hmx] at hi
            show Cell.str (gB (spB t 10) (i + 1)) = Cell.str ((midL t).getD i ⟨#[]⟩)
            rw [mid_get t i (by omega)]
          ((conv=>whnf);repeat((first|refine Ct ‹_› ?_|refine Cf ‹_› ?_|refine Ct rfl ?_|refine Cf rfl ?_|refine Bi rfl ?_|refine Bz rfl ?_|refine Lr ?_);conv=>whnf))
          refine WLoop_v2 ⟨[1, 2, 4, 12, 60, 61, 62], [2, 4, 12], []⟩ (fun (i : Int) (us : List Unt) => hdS 95 [(1, .v (vS t)), (2, .v (.one (.box 2 0))), (4, .v (.one (.box 4 0))), (12, .v (.one (.box 12 0))), (60, .v (.one (.own (vkey 60) (midL t).length))), (61, .v (vI (midL t).length)), (62, .v (vI i))] [(2, b.cs), (4, [cI 0, cI 0, .ro 4 0 nog]), (12, [cI (rdI (gB (spB (gB (spB t 10) 0) 32) 1)).1, cI (rdI (gB (spB (gB (spB t 10) 0) 32) 3)).1, .own (bkey 12 2) us.length])] [(bkey 12 2, rwU us), (vkey 60, rwS (midL t))])
            (fun n i us => 0 ≤ i ∧ i + n = (midL t).length ∧ us.length ≤ i ∧ pus (poI b) (midL t) = (pus (poI b) ((midL t).drop i.toNat)).map (us ++ ·) ∧ ∀ u ∈ us, u.Ok) (midL t).length 0 [] rfl ⟨by omega, by omega, by simp, by simp, by simp⟩ ?_
          rintro n i us ⟨h1, h2, h3, h5, h6⟩
          ((conv=>whnf);repeat((first|refine Ct ‹_› ?_|refine Cf ‹_› ?_|refine Ct rfl ?_|refine Cf rfl ?_|refine Bi rfl ?_|refine Bz rfl ?_|refine Lr ?_);conv=>whnf))
          refine Cnd_i (fun g => ?_) (fun g => ?_)
          · have ht := of_decide_eq_true g
            ((conv=>whnf);repeat((first|refine Ct ‹_› ?_|refine Cf ‹_› ?_|refine Ct rfl ?_|refine Cf rfl ?_|refine Bi rfl ?_|refine Bz rfl ?_|refine Lr ?_);conv=>whnf))
            refine Bnd_i (⟨h1, ht⟩) ?_; ((conv=>whnf);repeat((first|refine Ct ‹_› ?_|refine Cf ‹_› ?_|refine Ct rfl ?_|refine Cf rfl ?_|refine Bi rfl ?_|refine Bz rfl ?_|refine Lr ?_);conv=>whnf))
            have hli : (gB (midL t) i.toNat).size ≤ 1048576 := by
              rw [gB, mid_get t _ (by omega)]
              exact Nat.le_trans (spB_sz _) hl
            have hd : (midL t).drop i.toNat = gB (midL t) i.toNat :: (midL t).drop (i.toNat + 1) := by
              rw [List.drop_eq_getElem_cons (by omega : i.toNat < (midL t).length), gB, List.getD_eq_getElem?_getD, List.getElem?_eq_getElem (by omega)]
              rfl
            (refine CallQ_some (F_readUnit b ho (gB (midL t) i.toNat) hli) ?_ ?_ ?_; rfl; rfl); ((conv=>whnf);repeat((first|refine Ct ‹_› ?_|refine Cf ‹_› ?_|refine Ct rfl ?_|refine Cf rfl ?_|refine Bi rfl ?_|refine Bz rfl ?_|refine Lr ?_);conv=>whnf))
            have hok := puI_ok b (gB (midL t) i.toNat) hk
            by_cases h7 : (puI b (gB (midL t) i.toNat)).2 = true
            · have hp : poI b (gB (midL t) i.toNat) = some _ := if_pos h7
              refine Cnd_f (by rw [h7]; rfl) ?_
              ((conv=>whnf);repeat((first|refine Ct ‹_› ?_|refine Cf ‹_› ?_|refine Ct rfl ?_|refine Cf rfl ?_|refine Bi rfl ?_|refine Bz rfl ?_|refine Lr ?_);conv=>whnf))
              refine Rw_self ?_
              ((conv=>whnf);repeat((first|refine Ct ‹_› ?_|refine Cf ‹_› ?_|refine Ct rfl ?_|refine Cf rfl ?_|refine Bi rfl ?_|refine Bz rfl ?_|refine Lr ?_);conv=>whnf))
              refine Bnd_i (by show us.length + 1 < _; omega) ?_
              ((conv=>whnf);repeat((first|refine Ct ‹_› ?_|refine Cf ‹_› ?_|refine Ct rfl ?_|refine Cf rfl ?_|refine Bi rfl ?_|refine Bz rfl ?_|refine Lr ?_);conv=>whnf))
              refine Rw_i (rwU (us ++ [(puI b (gB (midL t) i.toNat)).1])) (rwU_app _ _ _ (lt4 rfl rfl rfl rfl)) ?_
              ((conv=>whnf);repeat((first|refine Ct ‹_› ?_|refine Cf ‹_› ?_|refine Ct rfl ?_|refine Cf rfl ?_|refine Bi rfl ?_|refine Bz rfl ?_|refine Lr ?_);conv=>whnf))
              refine ⟨n - 1, i + 1, us ++ [(puI b (gB (midL t) i.toNat)).1], ?_, by omega, by omega, by omega, by simp; omega, ?_, fun u hu => ?_⟩
              · rw [wrapI (by omega)]; rfl
              · rw [h5, hd, pus_some hp, Option.map_map, show (i + 1).toNat = i.toNat + 1 by omega]
                congr 1
                funext x
                simp
              · rcases List.mem_append.1 hu with hu | hu
                · exact h6 u hu
                · rw [List.mem_singleton] at hu
                  rw [hu]; exact hok
            · have hp : poI b (gB (midL t) i.toNat) = none := if_neg h7
              have h7' : (puI b (gB (midL t) i.toNat)).2 = false := by simpa using h7
              refine Cnd_t (by rw [h7']; rfl) ?_
              ((conv=>whnf);repeat((first|refine Ct ‹_› ?_|refine Cf ‹_› ?_|refine Ct rfl ?_|refine Cf rfl ?_|refine Bi rfl ?_|refine Bz rfl ?_|refine Lr ?_);conv=>whnf))
              have e : psI b t = none := by rw [psI, if_pos h4, if_pos ⟨o1, o2⟩, h5, hd, pus_none hp]; rfl
              rw [e]
              exact ⟨rfl, rfl, rfl⟩
          · have ht := of_decide_eq_false g
            have e : psI b t = some ⟨(rdI (gB (spB (gB (spB t 10) 0) 32) 1)).1, (rdI (gB (spB (gB (spB t 10) 0) 32) 3)).1, us⟩ := by
              rw [psI, if_pos h4, if_pos ⟨o1, o2⟩, h5, List.drop_of_length_le (by omega)]
              simp [pus]
            have hS : (⟨(rdI (gB (spB (gB (spB t 10) 0) 32) 1)).1, (rdI (gB (spB (gB (spB t 10) 0) 32) 3)).1, us⟩ : Stt).Ok := ⟨rdI_i64 _, rdI_i64 _, by show us.length ≤ 9223372036854775807; omega, h6⟩
            have hgb := GB.of ho hb
            rw [e]
            generalize (rdI (gB (spB (gB (spB t 10) 0) 32) 1)).1 = tu at hS ⊢
            generalize (rdI (gB (spB (gB (spB t 10) 0) 32) 3)).1 = we at hS ⊢
            clear h5 e
            ((conv=>whnf);repeat((first|refine Ct ‹_› ?_|refine Cf ‹_› ?_|refine Ct rfl ?_|refine Cf rfl ?_|refine Bi rfl ?_|refine Bz rfl ?_|refine Lr ?_);conv=>whnf))
            refine CallQ_eq (snapP tu we us rfl b) ?_
            (refine CallQ_some (F_goodState b hgb ⟨tu, we, us⟩ hS) ?_ ?_ ?_; rfl; rfl); ((conv=>whnf);repeat((first|refine Ct ‹_› ?_|refine Cf ‹_› ?_|refine Ct rfl ?_|refine Cf rfl ?_|refine Bi rfl ?_|refine Bz rfl ?_|refine Lr ?_);conv=>whnf))
            by_cases e2 : okSt b ⟨tu, we, us⟩ = true
            · have e2b : (okBrd b && okSt b ⟨tu, we, us⟩) = true := by rw [hb, e2]; rfl
              have q3 : (!(okSt b ⟨tu, we, us⟩)) = false := by rw [e2]; rfl
              refine Cnd_f q3 ?_
              ((conv=>whnf);repeat((first|refine Ct ‹_› ?_|refine Cf ‹_› ?_|refine Ct rfl ?_|refine Cf rfl ?_|refine Bi rfl ?_|refine Bz rfl ?_|refine Lr ?_);conv=>whnf))
              refine CallQ_eq (snapP tu we us rfl b) ?_
              (refine CallQ_some (F_stateText b ho ⟨tu, we, us⟩ hS (StOk.of ho e2b)) ?_ ?_ ?_; rfl; rfl); ((conv=>whnf);repeat((first|refine Ct ‹_› ?_|refine Cf ‹_› ?_|refine Ct rfl ?_|refine Cf rfl ?_|refine Bi rfl ?_|refine Bz rfl ?_|refine Lr ?_);conv=>whnf))
              refine Cnd_i (fun g2 => ?_) (fun g2 => ?_)
              · ((conv=>whnf);repeat((first|refine Ct ‹_› ?_|refine Cf ‹_› ?_|refine Ct rfl ?_|refine Cf rfl ?_|refine Bi rfl ?_|refine Bz rfl ?_|refine Lr ?_);conv=>whnf))
                have e3 : nameIs (stT b ⟨tu, we, us⟩) t = false := by
                  have : (!(nameIs (stT b ⟨tu, we, us⟩) t)) = true := g2
                  simpa using this
                rw [show fin b t (some ⟨tu, we, us⟩) = none from if_neg (fun h => by rw [e3] at h; cases h.2)]
                exact ⟨rfl, rfl, rfl⟩
              · ((conv=>whnf);repeat((first|refine Ct ‹_› ?_|refine Cf ‹_› ?_|refine Ct rfl ?_|refine Cf rfl ?_|refine Bi rfl ?_|refine Bz rfl ?_|refine Lr ?_);conv=>whnf))
                have e3 : nameIs (stT b ⟨tu, we, us⟩) t = true := by
                  have : (!(nameIs (stT b ⟨tu, we, us⟩) t)) = false := g2
                  simpa using this
                rw [show fin b t (some ⟨tu, we, us⟩) = some ⟨tu, we, us⟩ from if_pos ⟨e2b, e3⟩]
                exact ⟨rfl, rfl, rfl⟩
            · have e2' : okSt b ⟨tu, we, us⟩ = false := by cases hh : okSt b ⟨tu, we, us⟩ with
                | false => rfl
                | true => exact absurd hh e2
              have q3 : (!(okSt b ⟨tu, we, us⟩)) = true := by rw [e2']; rfl
              refine Cnd_t q3 ?_
              ((conv=>whnf);repeat((first|refine Ct ‹_› ?_|refine Cf ‹_› ?_|refine Ct rfl ?_|refine Cf rfl ?_|refine Bi rfl ?_|refine Bz rfl ?_|refine Lr ?_);conv=>whnf))
              rw [show fin b t (some ⟨tu, we, us⟩) = none from if_neg (fun h => by rw [e2', Bool.and_false] at h; cases h.1)]
              exact ⟨rfl, rfl, rfl⟩
        · have o2' : (rdI (gB (spB (gB (spB t 10) 0) 32) 3)).2 = false := by simpa using o2
          have q2 : (!(rdI (gB (spB (gB (spB t 10) 0) 32) 3)).2) = true := by rw [o2']; rfl
          refine Cnd_t q2 ?_
          ((conv=>whnf);repeat((first|refine Ct ‹_› ?_|refine Cf ‹_› ?_|refine Ct rfl ?_|refine Cf rfl ?_|refine Bi rfl ?_|refine Bz rfl ?_|refine Lr ?_);conv=>whnf))
          have e : psI b t = none := by rw [psI, if_pos h4, if_neg (fun h => o2 h.2)]
          rw [e]
          exact ⟨rfl, rfl, rfl⟩
      · have o1' : (rdI (gB (spB (gB (spB t 10) 0) 32) 1)).2 = false := by simpa using o1
        have q1 : (!(rdI (gB (spB (gB (spB t 10) 0) 32) 1)).2) = true := by rw [o1']; rfl
        refine Cnd_t q1 ?_
        ((conv=>whnf);repeat((first|refine Ct ‹_› ?_|refine Cf ‹_› ?_|refine Ct rfl ?_|refine Cf rfl ?_|refine Bi rfl ?_|refine Bz rfl ?_|refine Lr ?_);conv=>whnf))
        have e : psI b t = none := by rw [psI, if_pos h4, if_neg (fun h => o1 h.1)]
        rw [e]
        exact ⟨rfl, rfl, rfl⟩
    · refine Cnd_t (bne_iff_ne.2 (by omega)) ?_
      ((conv=>whnf);repeat((first|refine Ct ‹_› ?_|refine Cf ‹_› ?_|refine Ct rfl ?_|refine Cf rfl ?_|refine Bi rfl ?_|refine Bz rfl ?_|refine Lr ?_);conv=>whnf))
      have e : psI b t = none := if_neg h4
      rw [e]
      exact ⟨rfl, rfl, rfl⟩
  · have hb : okBrd b = false := by simpa using hb
    rw [fin_no hb]
    refine Cnd_t (by rw [hb]; rfl) ?_
    ((conv=>whnf);repeat((first|refine Ct ‹_› ?_|refine Cf ‹_› ?_|refine Ct rfl ?_|refine Cf rfl ?_|refine Bi rfl ?_|refine Bz rfl ?_|refine Lr ?_);conv=>whnf))
    exact ⟨rfl, rfl, rfl⟩

theorem dd_cases {n : Nat} (h : n < 100) : (∃ a : Fin 10, n = a.val ∧ Lib.decDigits n = [UInt8.ofNat (48 + a.val)]) ∨
    ∃ a b : Fin 10, a ≠ 0 ∧ n = 10 * a.val + b.val ∧ Lib.decDigits n = [UInt8.ofNat (48 + a.val), UInt8.ofNat (48 + b.val)] := by
  by_cases h1 : n < 10
  · exact .inl ⟨⟨n, h1⟩, rfl, by rw [Lib.decDigits, dif_pos h1]⟩
  · refine .inr ⟨⟨n / 10, by omega⟩, ⟨n % 10, by omega⟩, fun e => ?_, by show n = 10 * (n / 10) + n % 10; omega, ?_⟩
    · have : n / 10 = 0 := congrArg Fin.val e
      omega
    · rw [Lib.decDigits, dif_neg h1, Lib.decDigits, dif_pos (by omega)]
      rfl

def okAt (l : List UInt8) (x : Int) : Bool := match Lib.atoiAll l with
  | .ok v => v == x
  | _ => false

theorem okAt_of {l : List UInt8} {x : Int} (h : okAt l x = true) : Lib.atoiAll l = .ok x := by
  unfold okAt at h
  split at h
  · rename_i v e
    rw [e, eq_of_beq h]
  · cases h

theorem dg1 : ∀ a : Fin 10, okAt [UInt8.ofNat (48 + a.val)] a.val = true ∧ rdS ⟨#[UInt8.ofNat (48 + a.val)]⟩ = a.val ∧ UInt8.ofNat (48 + a.val) ≠ 32 ∧ UInt8.ofNat (48 + a.val) ≠ 10 ∧ UInt8.ofNat (48 + a.val) ≠ 45 := by decide +kernel

theorem dg2 : ∀ a b : Fin 10, a ≠ 0 → okAt [UInt8.ofNat (48 + a.val), UInt8.ofNat (48 + b.val)] (10 * a.val + b.val) = true ∧ rdS ⟨#[UInt8.ofNat (48 + a.val), UInt8.ofNat (48 + b.val)]⟩ = 10 * a.val + b.val := by decide +kernel

theorem lb_dg (n : Int) : (dgT n).data.toList = Lib.decDigits n.toNat := by simp [dgT]

theorem dg_no {n : Int} (h1 : n < 100) (c : UInt8) (hc : c = 32 ∨ c = 10) : c ∉ (dgT n).data.toList := by
  rw [lb_dg]
  have ne : ∀ a : Fin 10, c ≠ UInt8.ofNat (48 + a.val) := fun a e => by
    obtain ⟨_, _, q1, q2, _⟩ := dg1 a
    rcases hc with rfl | rfl
    · exact q1 e.symm
    · exact q2 e.symm
  rcases dd_cases (n := n.toNat) (by omega) with ⟨a, _, e⟩ | ⟨a, b, _, _, e⟩ <;> rw [e]
  · exact fun h => ne a (List.mem_singleton.1 h)
  · intro h
    rcases List.mem_cons.1 h with h | h
    · exact ne a h
    · exact ne b (List.mem_singleton.1 h)

theorem rdS_dg {n : Int} (h0 : 0 ≤ n) (h1 : n < 100) : rdS (dgT n) = n := by
  rcases dd_cases (n := n.toNat) (by omega) with ⟨a, hn, e⟩ | ⟨a, b, ha, hn, e⟩
  · have := (dg1 a).2.1
    unfold dgT
    rw [e, this]; omega
  · have := (dg2 a b ha).2
    unfold dgT
    rw [e, this]; omega

theorem rdI_dg {n : Int} (h0 : 0 ≤ n) (h1 : n < 100) : rdI (dgT n) = (n, true) := by
  have hat : Lib.atoiAll (dgT n).data.toList = .ok n := by
    rw [lb_dg]
    rcases dd_cases (n := n.toNat) (by omega) with ⟨a, hn, e⟩ | ⟨a, b, ha, hn, e⟩
    · rw [e, okAt_of (dg1 a).1]; congr 1; omega
    · rw [e, okAt_of (dg2 a b ha).1]; congr 1; omega
  have hs := dgT_size h0 h1
  unfold rdI
  rw [hat]
  simp only
  rw [if_neg]
  rintro (hh | hh)
  · omega
  · apply hh
    unfold Lib.itoa
    rw [if_neg (by omega)]
    rfl

theorem nameIs_eq {a b : ByteArray} : nameIs a b = true ↔ a = b := by
  unfold nameIs
  rw [ByteArray.toList_eq, ByteArray.toList_eq]
  constructor
  · intro h
    apply ByteArray.ext
    exact Array.toList_inj.1 (eq_of_beq h)
  · rintro rfl
    exact beq_self_eq_true _

theorem nameIs_self (a : ByteArray) : nameIs a a = true := nameIs_eq.2 rfl

theorem mkB_lb (s : ByteArray) : mkB s.data.toList = s := by
  apply ByteArray.ext; simp

theorem lb_app (a b : ByteArray) : (a ++ b).data.toList = a.data.toList ++ b.data.toList := by simp

theorem name_no {b : Brd} (h : GB b) {k : Int} (h0 : 0 ≤ k) (h1 : k < b.r.knd.length) (c : UInt8) (hc : c = 32 ∨ c = 10) : c ∉ (b.r.knd.getD k.toNat Knd.d).name.data.toList := by
  have hm := h.knd _ (getD_memT (d := Knd.d) h0 h1)
  simp only [okKnd, Bool.and_eq_true] at hm
  have hn := hm.1.1.1.1
  rw [okName, Bool.and_eq_true] at hn
  have hn := of_decide_eq_true hn.1
  intro hmem
  obtain ⟨i, hi, e⟩ := List.mem_iff_getElem.1 hmem
  have hi' : i < (b.r.knd.getD k.toNat Knd.d).name.size := by rw [Array.length_toList] at hi; exact hi
  obtain ⟨x, hx1, hx2⟩ := bt_at (s := (b.r.knd.getD k.toNat Knd.d).name) (i := (i : Int)) (by omega) (by omega)
  rw [show ((i : Int)).toNat = i by omega, List.getElem?_eq_getElem hi, e] at hx1
  cases hx1
  have := hn i hi'
  rw [hx2] at this
  rcases hc with rfl | rfl
  · have e : (32 : UInt8).toNat = 32 := rfl
    omega
  · have e : (10 : UInt8).toNat = 10 := rfl
    omega

theorem at_no {n : Int} (h1 : n < 100) (c : UInt8) (hc : c = 32 ∨ c = 10) : c ∉ (atT n).data.toList := by
  unfold atT
  split
  · rcases hc with rfl | rfl <;> decide
  · exact dg_no h1 c hc

abbrev unL (b : Brd) (u : Unt) : List UInt8 := (dgT u.side).data.toList ++ 32 :: ((b.r.knd.getD u.kind.toNat Knd.d).name.data.toList ++ 32 :: ((atT u.at').data.toList ++ 32 :: (dgT u.ste).data.toList))

theorem uT_l (b : Brd) (u : Unt) : (uT b u).data.toList = unL b u ++ [10] := by
  unfold uT
  simp only [lb_app]
  simp [unL]

abbrev heL (s : Stt) : List UInt8 := [116, 117, 114, 110] ++ 32 :: ((dgT s.turn).data.toList ++ 32 :: ([119, 101, 97, 116, 104, 101, 114] ++ 32 :: (dgT s.wea).data.toList))

theorem hT_l (s : Stt) : (hT s).data.toList = heL s ++ [10] := by
  unfold hT
  simp only [lb_app]
  simp [heL]

def usL (b : Brd) : List Unt → List UInt8
  | [] => []
  | u :: us => unL b u ++ 10 :: usL b us

theorem usT_l (b : Brd) : ∀ (us : List Unt) (o : ByteArray), (usT b o us).data.toList = o.data.toList ++ usL b us
  | [], o => by simp [usT, usL]
  | u :: us, o => by
    rw [usT, usT_l b us, lb_app, uT_l, usL]
    simp

theorem ln_no {b : Brd} (h : GB b) {u : Unt} (hu : UnS b u) : 10 ∉ unL b u := by
  have h1 := dg_no (n := u.side) hu.side.2 10 (.inr rfl)
  have h2 := name_no h hu.kind.1 hu.kind.2 10 (.inr rfl)
  have h3 := at_no (n := u.at') hu.at' 10 (.inr rfl)
  have h4 := dg_no (n := u.ste) hu.ste.2 10 (.inr rfl)
  simp only [unL, List.mem_append, List.mem_cons]
  rintro (h | h | h | h | h | h | h)
  · exact h1 h
  · exact absurd h (by decide)
  · exact h2 h
  · exact absurd h (by decide)
  · exact h3 h
  · exact absurd h (by decide)
  · exact h4 h

theorem us_split {b : Brd} (h : GB b) : ∀ (us : List Unt), (∀ u ∈ us, UnS b u) → splL 10 (usL b us) = us.map (unL b) ++ [[]]
  | [], _ => rfl
  | u :: us, hu => by
    rw [usL, splL_app (ln_no h (hu u List.mem_cons_self)), us_split h us (fun v hv => hu v (List.mem_cons_of_mem _ hv))]
    rfl

theorem hd_no {s : Stt} (h2 : s.turn < 100) (h4 : s.wea < 100) : 10 ∉ heL s := by
  have a1 := dg_no h2 10 (.inr rfl)
  have a2 := dg_no h4 10 (.inr rfl)
  simp only [heL, List.mem_append, List.mem_cons]
  rintro (h | h | h | h | h | h | h)
  · revert h; decide
  · exact absurd h (by decide)
  · exact a1 h
  · exact absurd h (by decide)
  · revert h; decide
  · exact absurd h (by decide)
  · exact a2 h

theorem spB_st {b : Brd} (h : GB b) {s : Stt} (h2 : s.turn < 100) (h4 : s.wea < 100) (hu : ∀ u ∈ s.un, UnS b u) : spB (stT b s) 10 = mkB (heL s) :: (s.un.map (fun u => mkB (unL b u)) ++ [mkB []]) := by
  unfold spB stT
  rw [usT_l, hT_l, List.append_assoc]
  show (splL 10 (heL s ++ 10 :: usL b s.un)).map mkB = _
  rw [splL_app (hd_no h2 h4), us_split h s.un hu]
  simp

theorem mid_st {b : Brd} (h : GB b) {s : Stt} (h2 : s.turn < 100) (h4 : s.wea < 100) (hu : ∀ u ∈ s.un, UnS b u) : midL (stT b s) = s.un.map (fun u => mkB (unL b u)) := by
  unfold midL
  rw [spB_st h h2 h4 hu, List.drop_succ_cons, List.drop_zero, List.dropLast_concat]

theorem pus_map {p : ByteArray → Option Unt} {f : Unt → ByteArray} : ∀ {us : List Unt}, (∀ u ∈ us, p (f u) = some u) → pus p (us.map f) = some us
  | [], _ => rfl
  | u :: us, h => by
    rw [List.map_cons, pus_some (h u List.mem_cons_self), pus_map (fun v hv => h v (List.mem_cons_of_mem _ hv))]
    rfl

theorem ln_split {b : Brd} (h : GB b) {u : Unt} (hu : UnS b u) : spB (mkB (unL b u)) 32 = [dgT u.side, (b.r.knd.getD u.kind.toNat Knd.d).name, atT u.at', dgT u.ste] := by
  unfold spB
  show (splL 32 (unL b u)).map mkB = _
  rw [unL, splL_app (dg_no hu.side.2 32 (.inl rfl)), splL_app (name_no h hu.kind.1 hu.kind.2 32 (.inl rfl)), splL_app (at_no hu.at' 32 (.inl rfl)), splL_no (dg_no hu.ste.2 32 (.inl rfl))]
  simp only [List.map_cons, List.map_nil, mkB_lb]

theorem hd_split {s : Stt} (h2 : s.turn < 100) (h4 : s.wea < 100) : spB (mkB (heL s)) 32 = [mkB [116, 117, 114, 110], dgT s.turn, mkB [119, 101, 97, 116, 104, 101, 114], dgT s.wea] := by
  unfold spB
  show (splL 32 (heL s)).map mkB = _
  rw [heL, splL_app (by decide), splL_app (dg_no h2 32 (.inl rfl)), splL_app (by decide), splL_no (dg_no h4 32 (.inl rfl))]
  simp only [List.map_cons, List.map_nil, mkB_lb]

theorem kind_of {b : Brd} (hb : okBrd b = true) {k : Int} (h0 : 0 ≤ k) (h1 : k < b.r.knd.length) : fi (fun t => nameIs t.name (b.r.knd.getD k.toNat Knd.d).name) b.r.knd = k := by
  simp only [okBrd, okRul, Bool.and_eq_true] at hb
  have hk := hb.1.1.1.2
  have := (of_decide_eq_true hk k.toNat (by omega)).2
  rw [this]; omega

theorem rd_minus : rdS minus = -1 := by decide +kernel

theorem at_of {n : Int} (h0 : -1 ≤ n) (h1 : n < 100) : rdS (atT n) = n ∧ atW (atT n) = (n, true) := by
  unfold atT
  by_cases h : n < 0
  · rw [if_pos h]
    have : n = -1 := by omega
    subst this
    exact ⟨rd_minus, if_pos (nameIs_self _)⟩
  · rw [if_neg h]
    refine ⟨rdS_dg (by omega) h1, ?_⟩
    have hn : ¬ nameIs (dgT n) minus = true := by
      intro e
      have e := nameIs_eq.1 e
      have e2 : (dgT n).data.toList = [45] := by rw [e]
      rw [lb_dg] at e2
      rcases dd_cases (n := n.toNat) (by omega) with ⟨a, _, q⟩ | ⟨a, b, _, _, q⟩
      · rw [q] at e2
        exact (dg1 a).2.2.2.2 (List.cons.inj e2).1
      · rw [q] at e2
        exact absurd (List.cons.inj e2).2 (by simp)
    unfold atW
    rw [if_neg hn, rdI_dg (by omega) h1]

theorem pu_rt {b : Brd} (hb : okBrd b = true) (h : GB b) {u : Unt} (hu : UnS b u) : puS b (mkB (unL b u)) = some u ∧ poI b (mkB (unL b u)) = some u := by
  obtain ⟨a1, a2⟩ := at_of hu.at1 hu.at'
  have hk := kind_of hb hu.kind.1 hu.kind.2
  constructor
  · unfold puS
    rw [ln_split h hu, if_pos (show [_, _, _, _].length = 4 from rfl)]
    show some (⟨rdS (dgT u.side), fi _ b.r.knd, rdS (atT u.at'), rdS (dgT u.ste)⟩ : Unt) = some u
    rw [rdS_dg hu.side.1 hu.side.2, a1, rdS_dg hu.ste.1 hu.ste.2]
    show some (⟨u.side, fi (fun t => nameIs t.name (b.r.knd.getD u.kind.toNat Knd.d).name) b.r.knd, u.at', u.ste⟩ : Unt) = some u
    rw [hk]
  · have e : puI b (mkB (unL b u)) = (u, true) := by
      unfold puI
      rw [ln_split h hu, if_pos (show [_, _, _, _].length = 4 from rfl)]
      show ((⟨(rdI (dgT u.side)).1, fi (fun t => nameIs t.name (b.r.knd.getD u.kind.toNat Knd.d).name) b.r.knd, (atW (atT u.at')).1, (rdI (dgT u.ste)).1⟩ : Unt), (rdI (dgT u.side)).2 && (rdI (dgT u.ste)).2 && (atW (atT u.at')).2) = (u, true)
      rw [rdI_dg hu.side.1 hu.side.2, a2, rdI_dg hu.ste.1 hu.ste.2, hk]
      rfl
    unfold poI
    rw [e]
    rfl

theorem st_facts {b : Brd} {s : Stt} (h : StOk b s) : s.turn < 100 ∧ s.wea < 100 ∧ ∀ u ∈ s.un, UnS b u := by
  have ht := h.turn
  have hw := h.wea
  have hnu := h.gb.nums
  simp only [numsOk, Bool.and_eq_true] at hnu
  have htu := of_decide_eq_true hnu.2
  exact ⟨by omega, by omega, fun u hu => UnS.of h.gb (h.un u hu)⟩
end Go.Proofs.YteemoapfkgkngaaGreatDoor.Ab
