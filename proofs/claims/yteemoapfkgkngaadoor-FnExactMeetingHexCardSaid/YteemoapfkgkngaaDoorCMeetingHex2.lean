/- Contracts of the functions that FnExactMeetingHex reaches, by the abstract machine (part 2).
   Conditions: none. -/
import Derived.Test.YteemoapfkgkngaaDoorCMeetingHex1
set_option linter.unusedVariables false
set_option linter.unusedSimpArgs false
namespace Go.Proofs.YteemoapfkgkngaaDoor.Ab
open Go Go.RowKit
attribute [local irreducible] Cnd Bnd Rw CallQ CallR Bts Isn Lc WLoop
set_option maxRecDepth 100000
set_option maxHeartbeats 1000000
theorem F_relaxed0 (b : Brd) (h : GB b) (k w i : Int) (bk : Bool) (k0 : 0 ≤ k ∧ k < b.r.knd.length) (w0 : 0 ≤ w ∧ w ≤ 2) (i0 : 0 ≤ i ∧ i < b.m.ter.length) :
    Fun E0 42 [.agg b.cs, vI k, vI w, vI i, vB bk, .one (.ro 1 0 nog)] [] (.v (.one (.own 0 (dL b k w i [] bk).length))) [(0, rwI (dL b k w i [] bk))] [] :=
  FunNog (pre := [.agg b.cs, vI k, vI w, vI i, vB bk]) (post := []) (F_relaxed b h k w i bk [] k0 w0 i0 (Nat.zero_le _))

structure HxB (q r : Int) : Prop where
  q : 0 ≤ q ∧ q ≤ 9
  r : 0 ≤ r ∧ r ≤ 9

structure PtB (q r n : Int) : Prop where
  n : 1 ≤ n ∧ n ≤ 18
  q : 0 ≤ q ∧ q ≤ 1000
  r : 0 ≤ r ∧ r ≤ 1000

/-! ### trips -/
def okTr (b : Brd) (k w i x : Int) : Bool := okIn b k w i && okIn b k w x

theorem okTr_eq {b : Brd} (h : GB b) {k w i x : Int} (e : okIn b k w i = true) : okIn b k w x = In x 0 (b.m.ter.length - 1) := by
  have hn := h.n
  unfold okIn at e ⊢
  simp only [Bool.and_eq_true] at e
  obtain ⟨⟨⟨e1, e2⟩, _⟩, e4⟩ := e
  rw [e1, e2, e4, hn]; simp

theorem TrOk {b : Brd} (ho : b.Ok) {k w i x : Int} (h : okTr b k w i x = true) : InOk b k w i ∧ 0 ≤ x ∧ x < b.m.ter.length := by
  simp only [okTr, Bool.and_eq_true] at h
  exact ⟨InOk.of ho h.1, (InOk.of ho h.2).i⟩

theorem F_isTrip (b : Brd) (ho : b.Ok) (k w i x : Int) : Fun E0 41 [.agg b.cs, vI k, vI w, vI i, vI x] [] (.v (vB (okTr b k w i x))) [] [] := by
  refine Fun_of_xc k41 rfl rfl (fun k q h => by cases h) ?_
  ((conv=>whnf);repeat((first|refine Ct ‹_› ?_|refine Cf ‹_› ?_|refine Ct rfl ?_|refine Cf rfl ?_|refine Bi rfl ?_|refine Bz rfl ?_|refine Lr ?_);conv=>whnf))
  (refine CallQ_some (F_isMover b ho k w i) ?_ ?_ ?_; rfl; rfl); ((conv=>whnf);repeat((first|refine Ct ‹_› ?_|refine Cf ‹_› ?_|refine Ct rfl ?_|refine Cf rfl ?_|refine Bi rfl ?_|refine Bz rfl ?_|refine Lr ?_);conv=>whnf))
  refine Cnd_i (fun g => ?_) (fun g => ?_)
  · have hi := InOk.of ho g
    have hm := hi.gb.wh.mul
    have hn := hi.gb.n
    ((conv=>whnf);repeat((first|refine Ct ‹_› ?_|refine Cf ‹_› ?_|refine Ct rfl ?_|refine Cf rfl ?_|refine Bi rfl ?_|refine Bz rfl ?_|refine Lr ?_);conv=>whnf))
    (refine CallQ_some (F_sizeOf b) ?_ ?_ ?_; rfl; rfl); ((conv=>whnf);repeat((first|refine Ct ‹_› ?_|refine Cf ‹_› ?_|refine Ct rfl ?_|refine Cf rfl ?_|refine Bi rfl ?_|refine Bz rfl ?_|refine Lr ?_);conv=>whnf))
    (refine CallQ_some (F_isIndex x b.m.ter.length ⟨by unfold i64; omega, by omega⟩) ?_ ?_ ?_; rfl; rfl); ((conv=>whnf);repeat((first|refine Ct ‹_› ?_|refine Cf ‹_› ?_|refine Ct rfl ?_|refine Cf rfl ?_|refine Bi rfl ?_|refine Bz rfl ?_|refine Lr ?_);conv=>whnf))
    rw [okTr, g, okTr_eq hi.gb g, Bool.true_and]
    exact ⟨rfl, rfl, rfl⟩
  · ((conv=>whnf);repeat((first|refine Ct ‹_› ?_|refine Cf ‹_› ?_|refine Ct rfl ?_|refine Cf rfl ?_|refine Bi rfl ?_|refine Bz rfl ?_|refine Lr ?_);conv=>whnf))
    rw [okTr, g, Bool.false_and]
    exact ⟨rfl, rfl, rfl⟩

/-! ### a place to meet -/
def betM (L L' : List Int) (x y : Int) : Prop := max (L.getD x.toNat 0) (L'.getD x.toNat 0) < max (L.getD y.toNat 0) (L'.getD y.toNat 0) ∨ (max (L.getD x.toNat 0) (L'.getD x.toNat 0) = max (L.getD y.toNat 0) (L'.getD y.toNat 0) ∧ L.getD x.toNat 0 + L'.getD x.toNat 0 < L.getD y.toNat 0 + L'.getD y.toNat 0)

instance (L L' : List Int) (x y : Int) : Decidable (betM L L' x y) := by unfold betM; infer_instance

/-- the best place among the first n, -1 if there is none -/
def mhN (L L' : List Int) : Nat → Int
  | 0 => -1
  | n + 1 => if L.getD n 0 < 0 ∨ L'.getD n 0 < 0 then mhN L L' n else if mhN L L' n < 0 ∨ betM L L' (n : Int) (mhN L L' n) then (n : Int) else mhN L L' n

theorem mhN_b (L L' : List Int) (n : Nat) : -1 ≤ mhN L L' n ∧ mhN L L' n < n := by
  induction n with
  | zero => unfold mhN; omega
  | succ n ih => unfold mhN; split <;> (try split) <;> omega

theorem mhN_succ (L L' : List Int) {t : Int} (h0 : 0 ≤ t) : mhN L L' (t + 1).toNat = if L.getD t.toNat 0 < 0 ∨ L'.getD t.toNat 0 < 0 then mhN L L' t.toNat else if mhN L L' t.toNat < 0 ∨ betM L L' t (mhN L L' t.toNat) then t else mhN L L' t.toNat := by
  rw [show (t + 1).toNat = t.toNat + 1 by omega, mhN, show ((t.toNat : Nat) : Int) = t by omega]

noncomputable def mtR (b : Brd) (k w i x : Int) : Int × Bool := if okTr b k w i x = true then if decide (mhN (dL b k w i [] false) (dL b k w x [] false) b.m.ter.length < 0) = true then (0, false) else (mhN (dL b k w i [] false) (dL b k w x [] false) b.m.ter.length, true) else (0, false)

theorem dL_sm {b : Brd} (h : GB b) {k w i : Int} (k0 : 0 ≤ k ∧ k < b.r.knd.length) (w0 : 0 ≤ w ∧ w ≤ 2) (i0 : 0 ≤ i ∧ i < b.m.ter.length) (av : List Int) (bk : Bool) : ∀ j : Nat, j < b.m.ter.length → -1 ≤ (dL b k w i av bk).getD j 0 ∧ (dL b k w i av bk).getD j 0 ≤ 2000 :=
  fun j hj => ⟨(dL_ok h k0 w0 i0 av bk).low j hj, dL_le h k0 w0 i0 av bk j hj⟩

theorem F_MeetingHex (b : Brd) (ho : b.Ok) (k w i x : Int) : Fun E0 18 [.agg b.cs, vI k, vI w, vI i, vI x] [] (.tup [vI (mtR b k w i x).1, vB (mtR b k w i x).2]) [] [] := by
  refine Fun_of_xc k18 rfl rfl (fun k q h => by cases h) ?_
  ((conv=>whnf);repeat((first|refine Ct ‹_› ?_|refine Cf ‹_› ?_|refine Ct rfl ?_|refine Cf rfl ?_|refine Bi rfl ?_|refine Bz rfl ?_|refine Lr ?_);conv=>whnf))
  (refine CallQ_some (F_pAsked b ho k w i) ?_ ?_ ?_; rfl; rfl); ((conv=>whnf);repeat((first|refine Ct ‹_› ?_|refine Cf ‹_› ?_|refine Ct rfl ?_|refine Cf rfl ?_|refine Bi rfl ?_|refine Bz rfl ?_|refine Lr ?_);conv=>whnf))
  refine Cnd_i (fun g => ?_) (fun g => ?_)
  · have e0 : okIn b k w i = false := by simpa using g
    ((conv=>whnf);repeat((first|refine Ct ‹_› ?_|refine Cf ‹_› ?_|refine Ct rfl ?_|refine Cf rfl ?_|refine Bi rfl ?_|refine Bz rfl ?_|refine Lr ?_);conv=>whnf))
    rw [mtR, okTr, e0]
    exact ⟨rfl, rfl, rfl⟩
  have e1 : okIn b k w i = true := by simpa using g
  ((conv=>whnf);repeat((first|refine Ct ‹_› ?_|refine Cf ‹_› ?_|refine Ct rfl ?_|refine Cf rfl ?_|refine Bi rfl ?_|refine Bz rfl ?_|refine Lr ?_);conv=>whnf))
  (refine CallQ_some (F_pAsked b ho k w x) ?_ ?_ ?_; rfl; rfl); ((conv=>whnf);repeat((first|refine Ct ‹_› ?_|refine Cf ‹_› ?_|refine Ct rfl ?_|refine Cf rfl ?_|refine Bi rfl ?_|refine Bz rfl ?_|refine Lr ?_);conv=>whnf))
  refine Cnd_i (fun g => ?_) (fun g => ?_)
  · have e0 : okIn b k w x = false := by simpa using g
    ((conv=>whnf);repeat((first|refine Ct ‹_› ?_|refine Cf ‹_› ?_|refine Ct rfl ?_|refine Cf rfl ?_|refine Bi rfl ?_|refine Bz rfl ?_|refine Lr ?_);conv=>whnf))
    rw [mtR, okTr, e1, e0]
    exact ⟨rfl, rfl, rfl⟩
  have e2 : okIn b k w x = true := by simpa using g
  have e0 : okTr b k w i x = true := by rw [okTr, e1, e2]; rfl
  obtain ⟨hi, hx⟩ := TrOk ho e0
  ((conv=>whnf);repeat((first|refine Ct ‹_› ?_|refine Cf ‹_› ?_|refine Ct rfl ?_|refine Cf rfl ?_|refine Bi rfl ?_|refine Bz rfl ?_|refine Lr ?_);conv=>whnf))
  (refine CallQ_some (F_pFrom0 b hi.gb k w i hi.k hi.w hi.i) ?_ ?_ ?_; rfl; rfl); ((conv=>whnf);repeat((first|refine Ct ‹_› ?_|refine Cf ‹_› ?_|refine Ct rfl ?_|refine Cf rfl ?_|refine Bi rfl ?_|refine Bz rfl ?_|refine Lr ?_);conv=>whnf))
  (refine CallQ_some (F_pFrom0 b hi.gb k w x hi.k hi.w hx) ?_ ?_ ?_; rfl; rfl); ((conv=>whnf);repeat((first|refine Ct ‹_› ?_|refine Cf ‹_› ?_|refine Ct rfl ?_|refine Cf rfl ?_|refine Bi rfl ?_|refine Bz rfl ?_|refine Lr ?_);conv=>whnf))
  have l1 := dL_len hi.gb hi.k hi.w hi.i [] false
  have l2 := dL_len hi.gb hi.k hi.w hx [] false
  have s1 := dL_sm hi.gb hi.k hi.w hi.i [] false
  have s2 := dL_sm hi.gb hi.k hi.w hx [] false
  have hm := hi.gb.wh.mul
  have hn := hi.gb.n
  unfold mtR
  rw [if_pos e0]
  generalize dL b k w i [] false = L at l1 s1 ⊢
  generalize dL b k w x [] false = L' at l2 s2 ⊢
  refine WLoop_v2 ⟨[12, 13, 14, 41, 42], [], []⟩ (fun (t y : Int) => hdS 127 [(12, .v (.one (.own (vkey 12) L.length))), (13, .v (.one (.own (vkey 13) L'.length))), (14, .v (vI y)), (41, .v (vI L.length)), (42, .v (vI t))] [] [(vkey 12, rwI L), (vkey 13, rwI L')])
    (fun n t y => 0 ≤ t ∧ t + n = L.length ∧ y = mhN L L' t.toNat) L.length 0 (-1) rfl ⟨by omega, by omega, rfl⟩ ?_
  rintro n t y ⟨h1, h2, h3⟩
  have hb := mhN_b L L' t.toNat
  have hs := mhN_succ L L' h1
  rw [← h3] at hb hs
  ((conv=>whnf);repeat((first|refine Ct ‹_› ?_|refine Cf ‹_› ?_|refine Ct rfl ?_|refine Cf rfl ?_|refine Bi rfl ?_|refine Bz rfl ?_|refine Lr ?_);conv=>whnf))
  refine Cnd_i (fun g => ?_) (fun g => ?_)
  rotate_left
  · have ht := of_decide_eq_false g
    have e4 : y = mhN L L' b.m.ter.length := by rw [h3, show t.toNat = b.m.ter.length by omega]
    ((conv=>whnf);repeat((first|refine Ct ‹_› ?_|refine Cf ‹_› ?_|refine Ct rfl ?_|refine Cf rfl ?_|refine Bi rfl ?_|refine Bz rfl ?_|refine Lr ?_);conv=>whnf))
    rw [← e4]
    refine Cnd_i (fun g2 => ?_) (fun g2 => ?_)
    · ((conv=>whnf);repeat((first|refine Ct ‹_› ?_|refine Cf ‹_› ?_|refine Ct rfl ?_|refine Cf rfl ?_|refine Bi rfl ?_|refine Bz rfl ?_|refine Lr ?_);conv=>whnf))
      rw [if_pos g2]
      exact ⟨rfl, rfl, rfl⟩
    · ((conv=>whnf);repeat((first|refine Ct ‹_› ?_|refine Cf ‹_› ?_|refine Ct rfl ?_|refine Cf rfl ?_|refine Bi rfl ?_|refine Bz rfl ?_|refine Lr ?_);conv=>whnf))
      rw [if_neg (by rw [g2]; simp)]
      exact ⟨rfl, rfl, rfl⟩
  have ht := of_decide_eq_true g
  have b1 := s1 t.toNat (by omega)
  have b2 := s2 t.toNat (by omega)
  ((conv=>whnf);repeat((first|refine Ct ‹_› ?_|refine Cf ‹_› ?_|refine Ct rfl ?_|refine Cf rfl ?_|refine Bi rfl ?_|refine Bz rfl ?_|refine Lr ?_);conv=>whnf))
  refine Bnd_i (⟨h1, by omega⟩) ?_; ((conv=>whnf);repeat((first|refine Ct ‹_› ?_|refine Cf ‹_› ?_|refine Ct rfl ?_|refine Cf rfl ?_|refine Bi rfl ?_|refine Bz rfl ?_|refine Lr ?_);conv=>whnf))
  refine Cnd_i (fun g1 => ?_) (fun g1 => ?_)
  · have d1 := of_decide_eq_true g1
    rw [if_pos (.inl d1)] at hs
    ((conv=>whnf);repeat((first|refine Ct ‹_› ?_|refine Cf ‹_› ?_|refine Ct rfl ?_|refine Cf rfl ?_|refine Bi rfl ?_|refine Bz rfl ?_|refine Lr ?_);conv=>whnf))
    refine ⟨n - 1, t + 1, y, ?_, by omega, by omega, by omega, hs.symm⟩
    rw [wrapI (by omega)]; rfl
  have d1 := of_decide_eq_false g1
  ((conv=>whnf);repeat((first|refine Ct ‹_› ?_|refine Cf ‹_› ?_|refine Ct rfl ?_|refine Cf rfl ?_|refine Bi rfl ?_|refine Bz rfl ?_|refine Lr ?_);conv=>whnf))
  refine Bnd_i (⟨h1, by omega⟩) ?_; ((conv=>whnf);repeat((first|refine Ct ‹_› ?_|refine Cf ‹_› ?_|refine Ct rfl ?_|refine Cf rfl ?_|refine Bi rfl ?_|refine Bz rfl ?_|refine Lr ?_);conv=>whnf))
  refine Cnd_i (fun g2 => ?_) (fun g2 => ?_)
  · have d2 := of_decide_eq_true g2
    rw [if_pos (.inr d2)] at hs
    ((conv=>whnf);repeat((first|refine Ct ‹_› ?_|refine Cf ‹_› ?_|refine Ct rfl ?_|refine Cf rfl ?_|refine Bi rfl ?_|refine Bz rfl ?_|refine Lr ?_);conv=>whnf))
    refine ⟨n - 1, t + 1, y, ?_, by omega, by omega, by omega, hs.symm⟩
    rw [wrapI (by omega)]; rfl
  have d2 := of_decide_eq_false g2
  rw [if_neg (by omega)] at hs
  ((conv=>whnf);repeat((first|refine Ct ‹_› ?_|refine Cf ‹_› ?_|refine Ct rfl ?_|refine Cf rfl ?_|refine Bi rfl ?_|refine Bz rfl ?_|refine Lr ?_);conv=>whnf))
  refine Cnd_i (fun g3 => ?_) (fun g3 => ?_)
  · have d3 := of_decide_eq_true g3
    rw [if_pos (.inl d3)] at hs
    ((conv=>whnf);repeat((first|refine Ct ‹_› ?_|refine Cf ‹_› ?_|refine Ct rfl ?_|refine Cf rfl ?_|refine Bi rfl ?_|refine Bz rfl ?_|refine Lr ?_);conv=>whnf))
    refine ⟨n - 1, t + 1, t, ?_, by omega, by omega, by omega, hs.symm⟩
    rw [wrapI (by omega)]; rfl
  have d3 := of_decide_eq_false g3
  have c1 := s1 y.toNat (by omega)
  have c2 := s2 y.toNat (by omega)
  ((conv=>whnf);repeat((first|refine Ct ‹_› ?_|refine Cf ‹_› ?_|refine Ct rfl ?_|refine Cf rfl ?_|refine Bi rfl ?_|refine Bz rfl ?_|refine Lr ?_);conv=>whnf))
  refine Bnd_i (⟨h1, by omega⟩) ?_; ((conv=>whnf);repeat((first|refine Ct ‹_› ?_|refine Cf ‹_› ?_|refine Ct rfl ?_|refine Cf rfl ?_|refine Bi rfl ?_|refine Bz rfl ?_|refine Lr ?_);conv=>whnf))
  refine Bnd_i (⟨h1, by omega⟩) ?_; ((conv=>whnf);repeat((first|refine Ct ‹_› ?_|refine Cf ‹_› ?_|refine Ct rfl ?_|refine Cf rfl ?_|refine Bi rfl ?_|refine Bz rfl ?_|refine Lr ?_);conv=>whnf))
  (refine CallQ_some (F_l1Most _ _) ?_ ?_ ?_; rfl; rfl); ((conv=>whnf);repeat((first|refine Ct ‹_› ?_|refine Cf ‹_› ?_|refine Ct rfl ?_|refine Cf rfl ?_|refine Bi rfl ?_|refine Bz rfl ?_|refine Lr ?_);conv=>whnf))
  refine Bnd_i (⟨by omega, by omega⟩) ?_; ((conv=>whnf);repeat((first|refine Ct ‹_› ?_|refine Cf ‹_› ?_|refine Ct rfl ?_|refine Cf rfl ?_|refine Bi rfl ?_|refine Bz rfl ?_|refine Lr ?_);conv=>whnf))
  refine Bnd_i (⟨by omega, by omega⟩) ?_; ((conv=>whnf);repeat((first|refine Ct ‹_› ?_|refine Cf ‹_› ?_|refine Ct rfl ?_|refine Cf rfl ?_|refine Bi rfl ?_|refine Bz rfl ?_|refine Lr ?_);conv=>whnf))
  (refine CallQ_some (F_l1Most _ _) ?_ ?_ ?_; rfl; rfl); ((conv=>whnf);repeat((first|refine Ct ‹_› ?_|refine Cf ‹_› ?_|refine Ct rfl ?_|refine Cf rfl ?_|refine Bi rfl ?_|refine Bz rfl ?_|refine Lr ?_);conv=>whnf))
  refine Cnd_i (fun g4 => ?_) (fun g4 => ?_)
  · have d4 := of_decide_eq_true g4
    skip
    rw [if_pos (.inr (.inl d4))] at hs
    ((conv=>whnf);repeat((first|refine Ct ‹_› ?_|refine Cf ‹_› ?_|refine Ct rfl ?_|refine Cf rfl ?_|refine Bi rfl ?_|refine Bz rfl ?_|refine Lr ?_);conv=>whnf))
    refine ⟨n - 1, t + 1, t, ?_, by omega, by omega, by omega, hs.symm⟩
    rw [wrapI (by omega)]; rfl
  have d4 := of_decide_eq_false g4
  skip
  ((conv=>whnf);repeat((first|refine Ct ‹_› ?_|refine Cf ‹_› ?_|refine Ct rfl ?_|refine Cf rfl ?_|refine Bi rfl ?_|refine Bz rfl ?_|refine Lr ?_);conv=>whnf))
  refine Bnd_i (⟨h1, by omega⟩) ?_; ((conv=>whnf);repeat((first|refine Ct ‹_› ?_|refine Cf ‹_› ?_|refine Ct rfl ?_|refine Cf rfl ?_|refine Bi rfl ?_|refine Bz rfl ?_|refine Lr ?_);conv=>whnf))
  refine Bnd_i (⟨h1, by omega⟩) ?_; ((conv=>whnf);repeat((first|refine Ct ‹_› ?_|refine Cf ‹_› ?_|refine Ct rfl ?_|refine Cf rfl ?_|refine Bi rfl ?_|refine Bz rfl ?_|refine Lr ?_);conv=>whnf))
  (refine CallQ_some (F_l1Most _ _) ?_ ?_ ?_; rfl; rfl); ((conv=>whnf);repeat((first|refine Ct ‹_› ?_|refine Cf ‹_› ?_|refine Ct rfl ?_|refine Cf rfl ?_|refine Bi rfl ?_|refine Bz rfl ?_|refine Lr ?_);conv=>whnf))
  refine Bnd_i (⟨by omega, by omega⟩) ?_; ((conv=>whnf);repeat((first|refine Ct ‹_› ?_|refine Cf ‹_› ?_|refine Ct rfl ?_|refine Cf rfl ?_|refine Bi rfl ?_|refine Bz rfl ?_|refine Lr ?_);conv=>whnf))
  refine Bnd_i (⟨by omega, by omega⟩) ?_; ((conv=>whnf);repeat((first|refine Ct ‹_› ?_|refine Cf ‹_› ?_|refine Ct rfl ?_|refine Cf rfl ?_|refine Bi rfl ?_|refine Bz rfl ?_|refine Lr ?_);conv=>whnf))
  (refine CallQ_some (F_l1Most _ _) ?_ ?_ ?_; rfl; rfl); ((conv=>whnf);repeat((first|refine Ct ‹_› ?_|refine Cf ‹_› ?_|refine Ct rfl ?_|refine Cf rfl ?_|refine Bi rfl ?_|refine Bz rfl ?_|refine Lr ?_);conv=>whnf))
  refine Cnd_i (fun g5 => ?_) (fun g5 => ?_)
  · have d5 : max (L.getD t.toNat 0) (L'.getD t.toNat 0) = max (L.getD y.toNat 0) (L'.getD y.toNat 0) := by simpa using g5
    ((conv=>whnf);repeat((first|refine Ct ‹_› ?_|refine Cf ‹_› ?_|refine Ct rfl ?_|refine Cf rfl ?_|refine Bi rfl ?_|refine Bz rfl ?_|refine Lr ?_);conv=>whnf))
    refine Bnd_i (⟨h1, by omega⟩) ?_; ((conv=>whnf);repeat((first|refine Ct ‹_› ?_|refine Cf ‹_› ?_|refine Ct rfl ?_|refine Cf rfl ?_|refine Bi rfl ?_|refine Bz rfl ?_|refine Lr ?_);conv=>whnf))
    refine Bnd_i (⟨h1, by omega⟩) ?_; ((conv=>whnf);repeat((first|refine Ct ‹_› ?_|refine Cf ‹_› ?_|refine Ct rfl ?_|refine Cf rfl ?_|refine Bi rfl ?_|refine Bz rfl ?_|refine Lr ?_);conv=>whnf))
    refine Bnd_i (⟨by omega, by omega⟩) ?_; ((conv=>whnf);repeat((first|refine Ct ‹_› ?_|refine Cf ‹_› ?_|refine Ct rfl ?_|refine Cf rfl ?_|refine Bi rfl ?_|refine Bz rfl ?_|refine Lr ?_);conv=>whnf))
    refine Bnd_i (⟨by omega, by omega⟩) ?_; ((conv=>whnf);repeat((first|refine Ct ‹_› ?_|refine Cf ‹_› ?_|refine Ct rfl ?_|refine Cf rfl ?_|refine Bi rfl ?_|refine Bz rfl ?_|refine Lr ?_);conv=>whnf))
    refine Cnd_e (c' := decide (L.getD t.toNat 0 + L'.getD t.toNat 0 < L.getD y.toNat 0 + L'.getD y.toNat 0)) (by rw [wrapI (n := L.getD t.toNat 0 + L'.getD t.toNat 0) (by omega), wrapI (by omega)]) ?_
    refine Cnd_i (fun g6 => ?_) (fun g6 => ?_)
    · have d6 := of_decide_eq_true g6
      rw [if_pos (.inr (.inr ⟨d5, d6⟩))] at hs
      ((conv=>whnf);repeat((first|refine Ct ‹_› ?_|refine Cf ‹_› ?_|refine Ct rfl ?_|refine Cf rfl ?_|refine Bi rfl ?_|refine Bz rfl ?_|refine Lr ?_);conv=>whnf))
      refine ⟨n - 1, t + 1, t, ?_, by omega, by omega, by omega, hs.symm⟩
      rw [wrapI (by omega)]; rfl
    · have d6 := of_decide_eq_false g6
      rw [if_neg (fun hh => hh.elim d3 (fun h4 => h4.elim d4 (fun h5 => d6 h5.2)))] at hs
      ((conv=>whnf);repeat((first|refine Ct ‹_› ?_|refine Cf ‹_› ?_|refine Ct rfl ?_|refine Cf rfl ?_|refine Bi rfl ?_|refine Bz rfl ?_|refine Lr ?_);conv=>whnf))
      refine ⟨n - 1, t + 1, y, ?_, by omega, by omega, by omega, hs.symm⟩
      rw [wrapI (by omega)]; rfl
  · have d5 : ¬ max (L.getD t.toNat 0) (L'.getD t.toNat 0) = max (L.getD y.toNat 0) (L'.getD y.toNat 0) := by simpa using g5
    rw [if_neg (fun hh => hh.elim d3 (fun h4 => h4.elim d4 (fun h5 => d5 h5.1)))] at hs
    ((conv=>whnf);repeat((first|refine Ct ‹_› ?_|refine Cf ‹_› ?_|refine Ct rfl ?_|refine Cf rfl ?_|refine Bi rfl ?_|refine Bz rfl ?_|refine Lr ?_);conv=>whnf))
    refine ⟨n - 1, t + 1, y, ?_, by omega, by omega, by omega, hs.symm⟩
    rw [wrapI (by omega)]; rfl

theorem F_MeetingHexI (b : Brd) (ho : b.Ok) (k w i x : Int) : Fun E0 19 [.agg b.cs, vI k, vI w, vI i, vI x] [] (.tup [vI (mtR b k w i x).1, vB (mtR b k w i x).2]) [] [] := by
  refine Fun_of_xc k19 rfl rfl (fun k q h => by cases h) ?_
  ((conv=>whnf);repeat((first|refine Ct ‹_› ?_|refine Cf ‹_› ?_|refine Ct rfl ?_|refine Cf rfl ?_|refine Bi rfl ?_|refine Bz rfl ?_|refine Lr ?_);conv=>whnf))
  (refine CallQ_some (F_isTrip b ho k w i x) ?_ ?_ ?_; rfl; rfl); ((conv=>whnf);repeat((first|refine Ct ‹_› ?_|refine Cf ‹_› ?_|refine Ct rfl ?_|refine Cf rfl ?_|refine Bi rfl ?_|refine Bz rfl ?_|refine Lr ?_);conv=>whnf))
  refine Cnd_i (fun g => ?_) (fun g => ?_)
  · have e0 : okTr b k w i x = false := by simpa using g
    ((conv=>whnf);repeat((first|refine Ct ‹_› ?_|refine Cf ‹_› ?_|refine Ct rfl ?_|refine Cf rfl ?_|refine Bi rfl ?_|refine Bz rfl ?_|refine Lr ?_);conv=>whnf))
    rw [mtR, e0]
    exact ⟨rfl, rfl, rfl⟩
  have e0 : okTr b k w i x = true := by simpa using g
  obtain ⟨hi, hx⟩ := TrOk ho e0
  ((conv=>whnf);repeat((first|refine Ct ‹_› ?_|refine Cf ‹_› ?_|refine Ct rfl ?_|refine Cf rfl ?_|refine Bi rfl ?_|refine Bz rfl ?_|refine Lr ?_);conv=>whnf))
  (refine CallQ_some (F_relaxed0 b hi.gb k w i false hi.k hi.w hi.i) ?_ ?_ ?_; rfl; rfl); ((conv=>whnf);repeat((first|refine Ct ‹_› ?_|refine Cf ‹_› ?_|refine Ct rfl ?_|refine Cf rfl ?_|refine Bi rfl ?_|refine Bz rfl ?_|refine Lr ?_);conv=>whnf))
  (refine CallQ_some (F_relaxed0 b hi.gb k w x false hi.k hi.w hx) ?_ ?_ ?_; rfl; rfl); ((conv=>whnf);repeat((first|refine Ct ‹_› ?_|refine Cf ‹_› ?_|refine Ct rfl ?_|refine Cf rfl ?_|refine Bi rfl ?_|refine Bz rfl ?_|refine Lr ?_);conv=>whnf))
  have l1 := dL_len hi.gb hi.k hi.w hi.i [] false
  have l2 := dL_len hi.gb hi.k hi.w hx [] false
  have s1 := dL_sm hi.gb hi.k hi.w hi.i [] false
  have s2 := dL_sm hi.gb hi.k hi.w hx [] false
  have hm := hi.gb.wh.mul
  have hn := hi.gb.n
  unfold mtR
  rw [if_pos e0]
  generalize dL b k w i [] false = L at l1 s1 ⊢
  generalize dL b k w x [] false = L' at l2 s2 ⊢
  refine WLoop_v2 ⟨[12, 13, 14, 36, 37], [], []⟩ (fun (t y : Int) => hdS 107 [(12, .v (.one (.own (vkey 12) L.length))), (13, .v (.one (.own (vkey 13) L'.length))), (14, .v (vI y)), (36, .v (vI L.length)), (37, .v (vI t))] [] [(vkey 12, rwI L), (vkey 13, rwI L')])
    (fun n t y => 0 ≤ t ∧ t + n = L.length ∧ y = mhN L L' t.toNat) L.length 0 (-1) rfl ⟨by omega, by omega, rfl⟩ ?_
  rintro n t y ⟨h1, h2, h3⟩
  have hb := mhN_b L L' t.toNat
  have hs := mhN_succ L L' h1
  rw [← h3] at hb hs
  ((conv=>whnf);repeat((first|refine Ct ‹_› ?_|refine Cf ‹_› ?_|refine Ct rfl ?_|refine Cf rfl ?_|refine Bi rfl ?_|refine Bz rfl ?_|refine Lr ?_);conv=>whnf))
  refine Cnd_i (fun g => ?_) (fun g => ?_)
  rotate_left
  · have ht := of_decide_eq_false g
    have e4 : y = mhN L L' b.m.ter.length := by rw [h3, show t.toNat = b.m.ter.length by omega]
    ((conv=>whnf);repeat((first|refine Ct ‹_› ?_|refine Cf ‹_› ?_|refine Ct rfl ?_|refine Cf rfl ?_|refine Bi rfl ?_|refine Bz rfl ?_|refine Lr ?_);conv=>whnf))
    rw [← e4]
    refine Cnd_i (fun g2 => ?_) (fun g2 => ?_)
    · ((conv=>whnf);repeat((first|refine Ct ‹_› ?_|refine Cf ‹_› ?_|refine Ct rfl ?_|refine Cf rfl ?_|refine Bi rfl ?_|refine Bz rfl ?_|refine Lr ?_);conv=>whnf))
      rw [if_pos g2]
      exact ⟨rfl, rfl, rfl⟩
    · ((conv=>whnf);repeat((first|refine Ct ‹_› ?_|refine Cf ‹_› ?_|refine Ct rfl ?_|refine Cf rfl ?_|refine Bi rfl ?_|refine Bz rfl ?_|refine Lr ?_);conv=>whnf))
      rw [if_neg (by rw [g2]; simp)]
      exact ⟨rfl, rfl, rfl⟩
  have ht := of_decide_eq_true g
  have b1 := s1 t.toNat (by omega)
  have b2 := s2 t.toNat (by omega)
  ((conv=>whnf);repeat((first|refine Ct ‹_› ?_|refine Cf ‹_› ?_|refine Ct rfl ?_|refine Cf rfl ?_|refine Bi rfl ?_|refine Bz rfl ?_|refine Lr ?_);conv=>whnf))
  refine Bnd_i (⟨h1, by omega⟩) ?_; ((conv=>whnf);repeat((first|refine Ct ‹_› ?_|refine Cf ‹_› ?_|refine Ct rfl ?_|refine Cf rfl ?_|refine Bi rfl ?_|refine Bz rfl ?_|refine Lr ?_);conv=>whnf))
  refine Cnd_i (fun g1 => ?_) (fun g1 => ?_)
  · have d1 := of_decide_eq_true g1
    rw [if_pos (.inl d1)] at hs
    ((conv=>whnf);repeat((first|refine Ct ‹_› ?_|refine Cf ‹_› ?_|refine Ct rfl ?_|refine Cf rfl ?_|refine Bi rfl ?_|refine Bz rfl ?_|refine Lr ?_);conv=>whnf))
    refine ⟨n - 1, t + 1, y, ?_, by omega, by omega, by omega, hs.symm⟩
    rw [wrapI (by omega)]; rfl
  have d1 := of_decide_eq_false g1
  ((conv=>whnf);repeat((first|refine Ct ‹_› ?_|refine Cf ‹_› ?_|refine Ct rfl ?_|refine Cf rfl ?_|refine Bi rfl ?_|refine Bz rfl ?_|refine Lr ?_);conv=>whnf))
  refine Bnd_i (⟨h1, by omega⟩) ?_; ((conv=>whnf);repeat((first|refine Ct ‹_› ?_|refine Cf ‹_› ?_|refine Ct rfl ?_|refine Cf rfl ?_|refine Bi rfl ?_|refine Bz rfl ?_|refine Lr ?_);conv=>whnf))
  refine Cnd_i (fun g2 => ?_) (fun g2 => ?_)
  · have d2 := of_decide_eq_true g2
    rw [if_pos (.inr d2)] at hs
    ((conv=>whnf);repeat((first|refine Ct ‹_› ?_|refine Cf ‹_› ?_|refine Ct rfl ?_|refine Cf rfl ?_|refine Bi rfl ?_|refine Bz rfl ?_|refine Lr ?_);conv=>whnf))
    refine ⟨n - 1, t + 1, y, ?_, by omega, by omega, by omega, hs.symm⟩
    rw [wrapI (by omega)]; rfl
  have d2 := of_decide_eq_false g2
  rw [if_neg (by omega)] at hs
  ((conv=>whnf);repeat((first|refine Ct ‹_› ?_|refine Cf ‹_› ?_|refine Ct rfl ?_|refine Cf rfl ?_|refine Bi rfl ?_|refine Bz rfl ?_|refine Lr ?_);conv=>whnf))
  refine Cnd_i (fun g3 => ?_) (fun g3 => ?_)
  · have d3 := of_decide_eq_true g3
    rw [if_pos (.inl d3)] at hs
    ((conv=>whnf);repeat((first|refine Ct ‹_› ?_|refine Cf ‹_› ?_|refine Ct rfl ?_|refine Cf rfl ?_|refine Bi rfl ?_|refine Bz rfl ?_|refine Lr ?_);conv=>whnf))
    refine ⟨n - 1, t + 1, t, ?_, by omega, by omega, by omega, hs.symm⟩
    rw [wrapI (by omega)]; rfl
  have d3 := of_decide_eq_false g3
  have c1 := s1 y.toNat (by omega)
  have c2 := s2 y.toNat (by omega)
  ((conv=>whnf);repeat((first|refine Ct ‹_› ?_|refine Cf ‹_› ?_|refine Ct rfl ?_|refine Cf rfl ?_|refine Bi rfl ?_|refine Bz rfl ?_|refine Lr ?_);conv=>whnf))
  refine Bnd_i (⟨h1, by omega⟩) ?_; ((conv=>whnf);repeat((first|refine Ct ‹_› ?_|refine Cf ‹_› ?_|refine Ct rfl ?_|refine Cf rfl ?_|refine Bi rfl ?_|refine Bz rfl ?_|refine Lr ?_);conv=>whnf))
  refine Bnd_i (⟨h1, by omega⟩) ?_; ((conv=>whnf);repeat((first|refine Ct ‹_› ?_|refine Cf ‹_› ?_|refine Ct rfl ?_|refine Cf rfl ?_|refine Bi rfl ?_|refine Bz rfl ?_|refine Lr ?_);conv=>whnf))
  refine Bnd_i (⟨by omega, by omega⟩) ?_; ((conv=>whnf);repeat((first|refine Ct ‹_› ?_|refine Cf ‹_› ?_|refine Ct rfl ?_|refine Cf rfl ?_|refine Bi rfl ?_|refine Bz rfl ?_|refine Lr ?_);conv=>whnf))
  refine Bnd_i (⟨by omega, by omega⟩) ?_; ((conv=>whnf);repeat((first|refine Ct ‹_› ?_|refine Cf ‹_› ?_|refine Ct rfl ?_|refine Cf rfl ?_|refine Bi rfl ?_|refine Bz rfl ?_|refine Lr ?_);conv=>whnf))
  refine Cnd_i (fun g4 => ?_) (fun g4 => ?_)
  · have d4 := of_decide_eq_true g4
    simp only [mx_eq] at d4
    rw [if_pos (.inr (.inl d4))] at hs
    ((conv=>whnf);repeat((first|refine Ct ‹_› ?_|refine Cf ‹_› ?_|refine Ct rfl ?_|refine Cf rfl ?_|refine Bi rfl ?_|refine Bz rfl ?_|refine Lr ?_);conv=>whnf))
    refine ⟨n - 1, t + 1, t, ?_, by omega, by omega, by omega, hs.symm⟩
    rw [wrapI (by omega)]; rfl
  have d4 := of_decide_eq_false g4
  simp only [mx_eq] at d4
  ((conv=>whnf);repeat((first|refine Ct ‹_› ?_|refine Cf ‹_› ?_|refine Ct rfl ?_|refine Cf rfl ?_|refine Bi rfl ?_|refine Bz rfl ?_|refine Lr ?_);conv=>whnf))
  refine Cnd_i (fun g5 => ?_) (fun g5 => ?_)
  · have d5 : max (L.getD t.toNat 0) (L'.getD t.toNat 0) = max (L.getD y.toNat 0) (L'.getD y.toNat 0) := by simpa [mx_eq] using g5
    ((conv=>whnf);repeat((first|refine Ct ‹_› ?_|refine Cf ‹_› ?_|refine Ct rfl ?_|refine Cf rfl ?_|refine Bi rfl ?_|refine Bz rfl ?_|refine Lr ?_);conv=>whnf))
    refine Bnd_i (⟨h1, by omega⟩) ?_; ((conv=>whnf);repeat((first|refine Ct ‹_› ?_|refine Cf ‹_› ?_|refine Ct rfl ?_|refine Cf rfl ?_|refine Bi rfl ?_|refine Bz rfl ?_|refine Lr ?_);conv=>whnf))
    refine Bnd_i (⟨h1, by omega⟩) ?_; ((conv=>whnf);repeat((first|refine Ct ‹_› ?_|refine Cf ‹_› ?_|refine Ct rfl ?_|refine Cf rfl ?_|refine Bi rfl ?_|refine Bz rfl ?_|refine Lr ?_);conv=>whnf))
    refine Bnd_i (⟨by omega, by omega⟩) ?_; ((conv=>whnf);repeat((first|refine Ct ‹_› ?_|refine Cf ‹_› ?_|refine Ct rfl ?_|refine Cf rfl ?_|refine Bi rfl ?_|refine Bz rfl ?_|refine Lr ?_);conv=>whnf))
    refine Bnd_i (⟨by omega, by omega⟩) ?_; ((conv=>whnf);repeat((first|refine Ct ‹_› ?_|refine Cf ‹_› ?_|refine Ct rfl ?_|refine Cf rfl ?_|refine Bi rfl ?_|refine Bz rfl ?_|refine Lr ?_);conv=>whnf))
    refine Cnd_e (c' := decide (L.getD t.toNat 0 + L'.getD t.toNat 0 < L.getD y.toNat 0 + L'.getD y.toNat 0)) (by rw [wrapI (n := L.getD t.toNat 0 + L'.getD t.toNat 0) (by omega), wrapI (by omega)]) ?_
    refine Cnd_i (fun g6 => ?_) (fun g6 => ?_)
    · have d6 := of_decide_eq_true g6
      rw [if_pos (.inr (.inr ⟨d5, d6⟩))] at hs
      ((conv=>whnf);repeat((first|refine Ct ‹_› ?_|refine Cf ‹_› ?_|refine Ct rfl ?_|refine Cf rfl ?_|refine Bi rfl ?_|refine Bz rfl ?_|refine Lr ?_);conv=>whnf))
      refine ⟨n - 1, t + 1, t, ?_, by omega, by omega, by omega, hs.symm⟩
      rw [wrapI (by omega)]; rfl
    · have d6 := of_decide_eq_false g6
      rw [if_neg (fun hh => hh.elim d3 (fun h4 => h4.elim d4 (fun h5 => d6 h5.2)))] at hs
      ((conv=>whnf);repeat((first|refine Ct ‹_› ?_|refine Cf ‹_› ?_|refine Ct rfl ?_|refine Cf rfl ?_|refine Bi rfl ?_|refine Bz rfl ?_|refine Lr ?_);conv=>whnf))
      refine ⟨n - 1, t + 1, y, ?_, by omega, by omega, by omega, hs.symm⟩
      rw [wrapI (by omega)]; rfl
  · have d5 : ¬ max (L.getD t.toNat 0) (L'.getD t.toNat 0) = max (L.getD y.toNat 0) (L'.getD y.toNat 0) := by simpa [mx_eq] using g5
    rw [if_neg (fun hh => hh.elim d3 (fun h4 => h4.elim d4 (fun h5 => d5 h5.1)))] at hs
    ((conv=>whnf);repeat((first|refine Ct ‹_› ?_|refine Cf ‹_› ?_|refine Ct rfl ?_|refine Cf rfl ?_|refine Bi rfl ?_|refine Bz rfl ?_|refine Lr ?_);conv=>whnf))
    refine ⟨n - 1, t + 1, y, ?_, by omega, by omega, by omega, hs.symm⟩
    rw [wrapI (by omega)]; rfl

theorem F_FnExactMeetingHex (x0 : Brd) (x1 : Int) (x2 : Int) (x3 : Int) (x4 : Int) (o0 : x0.Ok) (o1 : i64 x1) (o2 : i64 x2) (o3 : i64 x3) (o4 : i64 x4) :
    Fun E0 5 [.agg x0.cs, vI x1, vI x2, vI x3, vI x4] [] (.v (vB true)) [] [] := by
  have hS := F_MeetingHex x0 o0 x1 x2 x3 x4
  have hI := F_MeetingHexI x0 o0 x1 x2 x3 x4
  revert hS hI
  generalize mtR x0 x1 x2 x3 x4 = RR
  obtain ⟨r0, r1⟩ := RR
  intro hS hI
  dsimp only at hS
  dsimp only at hI
  refine Fun_of_xc k5 rfl rfl (fun k q h => by cases h) ?_
  ((conv=>whnf);repeat((first|refine Ct ‹_› ?_|refine Cf ‹_› ?_|refine Ct rfl ?_|refine Cf rfl ?_|refine Bi rfl ?_|refine Bz rfl ?_|refine Lr ?_);conv=>whnf))
  (refine CallQ_some (F_szBoard x0 o0 1048576 (by omega) (by omega)) ?_ ?_ ?_; rfl; rfl); ((conv=>whnf);repeat((first|refine Ct ‹_› ?_|refine Cf ‹_› ?_|refine Ct rfl ?_|refine Cf rfl ?_|refine Bi rfl ?_|refine Bz rfl ?_|refine Lr ?_);conv=>whnf))
  refine Cnd_i (fun g => ?_) (fun g => ?_)
  · ((conv=>whnf);repeat((first|refine Ct ‹_› ?_|refine Cf ‹_› ?_|refine Ct rfl ?_|refine Cf rfl ?_|refine Bi rfl ?_|refine Bz rfl ?_|refine Lr ?_);conv=>whnf))
    exact ⟨rfl, rfl, rfl⟩
  have sm0 := szB_sm (b := x0) (x := 1048576) (by omega) (by omega) (of_decide_eq_false g)
  have s0 := sm0.1
  have sb0 := sm0.2
  have sc0 := of_decide_eq_false g
  ((conv=>whnf);repeat((first|refine Ct ‹_› ?_|refine Cf ‹_› ?_|refine Ct rfl ?_|refine Cf rfl ?_|refine Bi rfl ?_|refine Bz rfl ?_|refine Lr ?_);conv=>whnf))
  (refine CallQ_some (F_toBoard x0 s0) ?_ ?_ ?_; rfl; rfl); ((conv=>whnf);repeat((first|refine Ct ‹_› ?_|refine Cf ‹_› ?_|refine Ct rfl ?_|refine Cf rfl ?_|refine Bi rfl ?_|refine Bz rfl ?_|refine Lr ?_);conv=>whnf))
  refine CallQ_eq (snapB x0 _) ?_
  (refine CallQ_some (hS) ?_ ?_ ?_; rfl; rfl); ((conv=>whnf);repeat((first|refine Ct ‹_› ?_|refine Cf ‹_› ?_|refine Ct rfl ?_|refine Cf rfl ?_|refine Bi rfl ?_|refine Bz rfl ?_|refine Lr ?_);conv=>whnf))
  (refine CallQ_some (F_toBoard x0 s0) ?_ ?_ ?_; rfl; rfl); ((conv=>whnf);repeat((first|refine Ct ‹_› ?_|refine Cf ‹_› ?_|refine Ct rfl ?_|refine Cf rfl ?_|refine Bi rfl ?_|refine Bz rfl ?_|refine Lr ?_);conv=>whnf))
  refine CallQ_eq (snapB x0 _) ?_
  (refine CallQ_some (hI) ?_ ?_ ?_; rfl; rfl); ((conv=>whnf);repeat((first|refine Ct ‹_› ?_|refine Cf ‹_› ?_|refine Ct rfl ?_|refine Cf rfl ?_|refine Bi rfl ?_|refine Bz rfl ?_|refine Lr ?_);conv=>whnf))
  repeat (refine Cnd_f (by simp) ?_; ((conv=>whnf);repeat((first|refine Ct ‹_› ?_|refine Cf ‹_› ?_|refine Ct rfl ?_|refine Cf rfl ?_|refine Bi rfl ?_|refine Bz rfl ?_|refine Lr ?_);conv=>whnf)))
  repeat (refine Cnd_f (by simp) ?_; ((conv=>whnf);repeat((first|refine Ct ‹_› ?_|refine Cf ‹_› ?_|refine Ct rfl ?_|refine Cf rfl ?_|refine Bi rfl ?_|refine Bz rfl ?_|refine Lr ?_);conv=>whnf)))
  repeat (refine Cnd_f (by simp) ?_; ((conv=>whnf);repeat((first|refine Ct ‹_› ?_|refine Cf ‹_› ?_|refine Ct rfl ?_|refine Cf rfl ?_|refine Bi rfl ?_|refine Bz rfl ?_|refine Lr ?_);conv=>whnf)))
  (refine CallQ_some (F_toBoard x0 s0) ?_ ?_ ?_; rfl; rfl); ((conv=>whnf);repeat((first|refine Ct ‹_› ?_|refine Cf ‹_› ?_|refine Ct rfl ?_|refine Cf rfl ?_|refine Bi rfl ?_|refine Bz rfl ?_|refine Lr ?_);conv=>whnf))
  refine CallQ_eq (snapBB x0) ?_
  (refine CallQ_some (F_eqBoard x0 s0) ?_ ?_ ?_; rfl; rfl); ((conv=>whnf);repeat((first|refine Ct ‹_› ?_|refine Cf ‹_› ?_|refine Ct rfl ?_|refine Cf rfl ?_|refine Bi rfl ?_|refine Bz rfl ?_|refine Lr ?_);conv=>whnf))
  exact ⟨rfl, rfl, rfl⟩
end Go.Proofs.YteemoapfkgkngaaDoor.Ab
