/- Contracts of the functions that FnExactCountControlled reaches, by the abstract machine (part 2).
   Conditions: none. -/
import Derived.Test.YtmkigiicofjiaaaGreatDoorCCountControlled1
set_option linter.unusedVariables false
set_option linter.unusedSimpArgs false
namespace Go.Proofs.YtmkigiicofjiaaaGreatDoor.Ab
open Go Go.RowKit
attribute [local irreducible] Cnd Bnd Rw CallQ CallR Bts Isn Lc WLoop
set_option maxRecDepth 100000
set_option maxHeartbeats 1000000
theorem F_sAt (s : Stt) (hs : s.un.length ≤ 1048576) (i side : Int) :
    Fun E0 89 [.agg s.cs, vI i, vI side] [] (.v (.one (.own 0 (selU (atQ i side) s.un s.un.length).length))) [(0, rwI (selU (atQ i side) s.un s.un.length))] [] := by
  refine Fun_of_xc k89 rfl rfl (nrC (rwI_no _) nrN) ?_
  ((conv=>whnf);repeat((first|refine Ct ‹_› ?_|refine Cf ‹_› ?_|refine Ct rfl ?_|refine Cf rfl ?_|refine Bi rfl ?_|refine Bz rfl ?_|refine Lr ?_);conv=>whnf))
  refine Rw_i (rwI []) (rwI_nil _) ?_
  ((conv=>whnf);repeat((first|refine Ct ‹_› ?_|refine Cf ‹_› ?_|refine Ct rfl ?_|refine Cf rfl ?_|refine Bi rfl ?_|refine Bz rfl ?_|refine Lr ?_);conv=>whnf))
  refine Rw_i (rwI []) (rwI_nil _) ?_
  ((conv=>whnf);repeat((first|refine Ct ‹_› ?_|refine Cf ‹_› ?_|refine Ct rfl ?_|refine Cf rfl ?_|refine Bi rfl ?_|refine Bz rfl ?_|refine Lr ?_);conv=>whnf))
  refine WLoop_v2 ⟨[1, 2, 7, 11, 12, 13], [], []⟩ (fun (t : Int) (out : List Int) => hdS 34 [(1, .v (vI i)), (2, .v (vI side)), (7, .v (.one (.own (vkey 7) out.length))), (11, .v (.one (roU s.un))), (12, .v (vI s.un.length)), (13, .v (vI t))] [] [(vkey 7, rwI out)])
    (fun n t out => 0 ≤ t ∧ t + n = s.un.length ∧ out = selU (atQ i side) s.un t.toNat) s.un.length 0 [] rfl ⟨by omega, by omega, rfl⟩ ?_
  rintro n t out ⟨h1, h2, h3⟩
  have hle := selU_le (atQ i side) s.un t.toNat
  rw [← h3] at hle
  have hnx : selU (atQ i side) s.un (t + 1).toNat = if atQ i side (s.un.getD t.toNat Unt.d) = true then out ++ [t] else out := by
    rw [show (t + 1).toNat = t.toNat + 1 by omega, selU, ← h3, show ((t.toNat : Nat) : Int) = t by omega]
  ((conv=>whnf);repeat((first|refine Ct ‹_› ?_|refine Cf ‹_› ?_|refine Ct rfl ?_|refine Cf rfl ?_|refine Bi rfl ?_|refine Bz rfl ?_|refine Lr ?_);conv=>whnf))
  refine Cnd_i (fun g => ?_) (fun g => ?_)
  · have ht := of_decide_eq_true g
    ((conv=>whnf);repeat((first|refine Ct ‹_› ?_|refine Cf ‹_› ?_|refine Ct rfl ?_|refine Cf rfl ?_|refine Bi rfl ?_|refine Bz rfl ?_|refine Lr ?_);conv=>whnf))
    refine Bnd_i (⟨h1, ht⟩) ?_; ((conv=>whnf);repeat((first|refine Ct ‹_› ?_|refine Cf ‹_› ?_|refine Ct rfl ?_|refine Cf rfl ?_|refine Bi rfl ?_|refine Bz rfl ?_|refine Lr ?_);conv=>whnf))
    refine Cnd_i (fun g2 => ?_) (fun g2 => ?_)
    · ((conv=>whnf);repeat((first|refine Ct ‹_› ?_|refine Cf ‹_› ?_|refine Ct rfl ?_|refine Cf rfl ?_|refine Bi rfl ?_|refine Bz rfl ?_|refine Lr ?_);conv=>whnf))
      refine Cnd_i (fun g3 => ?_) (fun g3 => ?_)
      · ((conv=>whnf);repeat((first|refine Ct ‹_› ?_|refine Cf ‹_› ?_|refine Ct rfl ?_|refine Cf rfl ?_|refine Bi rfl ?_|refine Bz rfl ?_|refine Lr ?_);conv=>whnf))
        refine Rw_self ?_
        ((conv=>whnf);repeat((first|refine Ct ‹_› ?_|refine Cf ‹_› ?_|refine Ct rfl ?_|refine Cf rfl ?_|refine Bi rfl ?_|refine Bz rfl ?_|refine Lr ?_);conv=>whnf))
        refine Bnd_i ?_ ?_
        · show out.length + 1 < _
          omega
        ((conv=>whnf);repeat((first|refine Ct ‹_› ?_|refine Cf ‹_› ?_|refine Ct rfl ?_|refine Cf rfl ?_|refine Bi rfl ?_|refine Bz rfl ?_|refine Lr ?_);conv=>whnf))
        refine Rw_i (rwI (out ++ [t])) (rwI_app _ _ _ rfl) ?_
        ((conv=>whnf);repeat((first|refine Ct ‹_› ?_|refine Cf ‹_› ?_|refine Ct rfl ?_|refine Cf rfl ?_|refine Bi rfl ?_|refine Bz rfl ?_|refine Lr ?_);conv=>whnf))
        rw [if_pos (by rw [atQ, g2, g3]; rfl)] at hnx
        refine ⟨n - 1, t + 1, out ++ [t], ?_, by omega, by omega, by omega, hnx.symm⟩
        rw [wrapI (by omega)]; rfl
      · ((conv=>whnf);repeat((first|refine Ct ‹_› ?_|refine Cf ‹_› ?_|refine Ct rfl ?_|refine Cf rfl ?_|refine Bi rfl ?_|refine Bz rfl ?_|refine Lr ?_);conv=>whnf))
        rw [if_neg (by rw [atQ, g2, g3]; simp)] at hnx
        refine ⟨n - 1, t + 1, out, ?_, by omega, by omega, by omega, hnx.symm⟩
        rw [wrapI (by omega)]; rfl
    · ((conv=>whnf);repeat((first|refine Ct ‹_› ?_|refine Cf ‹_› ?_|refine Ct rfl ?_|refine Cf rfl ?_|refine Bi rfl ?_|refine Bz rfl ?_|refine Lr ?_);conv=>whnf))
      rw [if_neg (by rw [atQ, g2]; simp)] at hnx
      refine ⟨n - 1, t + 1, out, ?_, by omega, by omega, by omega, hnx.symm⟩
      rw [wrapI (by omega)]; rfl
  · have ht := of_decide_eq_false g
    ((conv=>whnf);repeat((first|refine Ct ‹_› ?_|refine Cf ‹_› ?_|refine Ct rfl ?_|refine Cf rfl ?_|refine Bi rfl ?_|refine Bz rfl ?_|refine Lr ?_);conv=>whnf))
    rw [h3, show t.toNat = s.un.length by omega]
    exact ⟨rfl, rfl, rfl⟩

/-- whose the first unit at a place is, -1 if there is none -/
def ownR (i : Int) : List Unt → Int
  | [] => -1
  | u :: l => if (u.at' == i) = true then u.side else ownR i l

theorem F_sOwner (s : Stt) (hs : s.un.length ≤ 1048576) (i : Int) : Fun E0 79 [.agg s.cs, vI i] [] (.v (vI (ownR i s.un))) [] [] := by
  refine Fun_of_xc k79 rfl rfl (fun k q h => by cases h) ?_
  ((conv=>whnf);repeat((first|refine Ct ‹_› ?_|refine Cf ‹_› ?_|refine Ct rfl ?_|refine Cf rfl ?_|refine Bi rfl ?_|refine Bz rfl ?_|refine Lr ?_);conv=>whnf))
  refine WLoop_v ⟨[1, 8, 9, 10], [], []⟩ (fun (t : Int) => hdS 21 [(1, .v (vI i)), (8, .v (.one (roU s.un))), (9, .v (vI s.un.length)), (10, .v (vI t))] [] [])
    (fun n t => 0 ≤ t ∧ t + n = s.un.length ∧ ownR i (s.un.drop t.toNat) = ownR i s.un) s.un.length 0 rfl ⟨by omega, by omega, rfl⟩ ?_
  rintro n t ⟨h1, h2, h3⟩
  ((conv=>whnf);repeat((first|refine Ct ‹_› ?_|refine Cf ‹_› ?_|refine Ct rfl ?_|refine Cf rfl ?_|refine Bi rfl ?_|refine Bz rfl ?_|refine Lr ?_);conv=>whnf))
  refine Cnd_i (fun g => ?_) (fun g => ?_)
  · have ht := of_decide_eq_true g
    rw [drop_cons (d := Unt.d) h1 ht, ownR] at h3
    ((conv=>whnf);repeat((first|refine Ct ‹_› ?_|refine Cf ‹_› ?_|refine Ct rfl ?_|refine Cf rfl ?_|refine Bi rfl ?_|refine Bz rfl ?_|refine Lr ?_);conv=>whnf))
    refine Bnd_i (⟨h1, ht⟩) ?_; ((conv=>whnf);repeat((first|refine Ct ‹_› ?_|refine Cf ‹_› ?_|refine Ct rfl ?_|refine Cf rfl ?_|refine Bi rfl ?_|refine Bz rfl ?_|refine Lr ?_);conv=>whnf))
    refine Cnd_i (fun g2 => ?_) (fun g2 => ?_)
    · rw [if_pos g2] at h3
      ((conv=>whnf);repeat((first|refine Ct ‹_› ?_|refine Cf ‹_› ?_|refine Ct rfl ?_|refine Cf rfl ?_|refine Bi rfl ?_|refine Bz rfl ?_|refine Lr ?_);conv=>whnf))
      rw [← h3]
      exact ⟨rfl, rfl, rfl⟩
    · rw [if_neg (by rw [g2]; simp)] at h3
      ((conv=>whnf);repeat((first|refine Ct ‹_› ?_|refine Cf ‹_› ?_|refine Ct rfl ?_|refine Cf rfl ?_|refine Bi rfl ?_|refine Bz rfl ?_|refine Lr ?_);conv=>whnf))
      refine ⟨n - 1, t + 1, ?_, by omega, by omega, by omega, h3⟩
      rw [wrapI (by omega)]; rfl
  · have ht := of_decide_eq_false g
    rw [show t.toNat = s.un.length by omega, List.drop_length, ownR] at h3
    ((conv=>whnf);repeat((first|refine Ct ‹_› ?_|refine Cf ‹_› ?_|refine Ct rfl ?_|refine Cf rfl ?_|refine Bi rfl ?_|refine Bz rfl ?_|refine Lr ?_);conv=>whnf))
    rw [← h3]
    exact ⟨rfl, rfl, rfl⟩

theorem F_ownerOf (s : Stt) (hs : s.un.length ≤ 1048576) (i : Int) : Fun E0 83 [.agg s.cs, vI i] [] (.v (vI (ownR i s.un))) [] [] := by
  refine Fun_of_xc k83 rfl rfl (fun k q h => by cases h) ?_
  ((conv=>whnf);repeat((first|refine Ct ‹_› ?_|refine Cf ‹_› ?_|refine Ct rfl ?_|refine Cf rfl ?_|refine Bi rfl ?_|refine Bz rfl ?_|refine Lr ?_);conv=>whnf))
  refine WLoop_v ⟨[1, 8, 9, 10], [], []⟩ (fun (t : Int) => hdS 21 [(1, .v (vI i)), (8, .v (.one (roU s.un))), (9, .v (vI s.un.length)), (10, .v (vI t))] [] [])
    (fun n t => 0 ≤ t ∧ t + n = s.un.length ∧ ownR i (s.un.drop t.toNat) = ownR i s.un) s.un.length 0 rfl ⟨by omega, by omega, rfl⟩ ?_
  rintro n t ⟨h1, h2, h3⟩
  ((conv=>whnf);repeat((first|refine Ct ‹_› ?_|refine Cf ‹_› ?_|refine Ct rfl ?_|refine Cf rfl ?_|refine Bi rfl ?_|refine Bz rfl ?_|refine Lr ?_);conv=>whnf))
  refine Cnd_i (fun g => ?_) (fun g => ?_)
  · have ht := of_decide_eq_true g
    rw [drop_cons (d := Unt.d) h1 ht, ownR] at h3
    ((conv=>whnf);repeat((first|refine Ct ‹_› ?_|refine Cf ‹_› ?_|refine Ct rfl ?_|refine Cf rfl ?_|refine Bi rfl ?_|refine Bz rfl ?_|refine Lr ?_);conv=>whnf))
    refine Bnd_i (⟨h1, ht⟩) ?_; ((conv=>whnf);repeat((first|refine Ct ‹_› ?_|refine Cf ‹_› ?_|refine Ct rfl ?_|refine Cf rfl ?_|refine Bi rfl ?_|refine Bz rfl ?_|refine Lr ?_);conv=>whnf))
    refine Cnd_i (fun g2 => ?_) (fun g2 => ?_)
    · rw [if_pos g2] at h3
      ((conv=>whnf);repeat((first|refine Ct ‹_› ?_|refine Cf ‹_› ?_|refine Ct rfl ?_|refine Cf rfl ?_|refine Bi rfl ?_|refine Bz rfl ?_|refine Lr ?_);conv=>whnf))
      rw [← h3]
      exact ⟨rfl, rfl, rfl⟩
    · rw [if_neg (by rw [g2]; simp)] at h3
      ((conv=>whnf);repeat((first|refine Ct ‹_› ?_|refine Cf ‹_› ?_|refine Ct rfl ?_|refine Cf rfl ?_|refine Bi rfl ?_|refine Bz rfl ?_|refine Lr ?_);conv=>whnf))
      refine ⟨n - 1, t + 1, ?_, by omega, by omega, by omega, h3⟩
      rw [wrapI (by omega)]; rfl
  · have ht := of_decide_eq_false g
    rw [show t.toNat = s.un.length by omega, List.drop_length, ownR] at h3
    ((conv=>whnf);repeat((first|refine Ct ‹_› ?_|refine Cf ‹_› ?_|refine Ct rfl ?_|refine Cf rfl ?_|refine Bi rfl ?_|refine Bz rfl ?_|refine Lr ?_);conv=>whnf))
    rw [← h3]
    exact ⟨rfl, rfl, rfl⟩

/-! ### how many of a side stand at a place -/
def cnt (us : List Unt) (n : Nat) (i s : Int) : Int := (selU (atQ i s) us n).length

theorem cnt_succ (us : List Unt) (n : Nat) (i s : Int) : cnt us (n + 1) i s = cnt us n i s + (if atQ i s (us.getD n Unt.d) = true then 1 else 0) := by
  unfold cnt
  rw [selU]
  split <;> simp

theorem cnt_b (us : List Unt) (n : Nat) (i s : Int) : 0 ≤ cnt us n i s ∧ cnt us n i s ≤ n := by
  have := selU_le (atQ i s) us n
  unfold cnt; omega

theorem cnt_mono (us : List Unt) {n m : Nat} (h : n ≤ m) (i s : Int) : cnt us n i s ≤ cnt us m i s := by
  induction h with
  | refl => exact Int.le_refl _
  | step _ ih => rw [cnt_succ]; split <;> omega

theorem cnt_pos {us : List Unt} {n k : Nat} {i s : Int} (h : k < n) (ha : (us.getD k Unt.d).at' = i) (hs : (us.getD k Unt.d).side = s) : 1 ≤ cnt us n i s := by
  have h1 := cnt_mono us (show k + 1 ≤ n by omega) i s
  rw [cnt_succ, if_pos (by rw [atQ, ha, hs]; simp)] at h1
  have := (cnt_b us k i s).1
  omega

def stk (st : Int) (us : List Unt) : Prop := ∀ k, k < us.length → 0 ≤ (us.getD k Unt.d).at' → cnt us us.length (us.getD k Unt.d).at' (1 - (us.getD k Unt.d).side) = 0 ∧ cnt us us.length (us.getD k Unt.d).at' (us.getD k Unt.d).side ≤ st

def pre (st : Int) (us : List Unt) (n : Nat) : Prop := ∀ k, k < n → 0 ≤ (us.getD k Unt.d).at' → cnt us (k + 1) (us.getD k Unt.d).at' (1 - (us.getD k Unt.d).side) = 0 ∧ cnt us (k + 1) (us.getD k Unt.d).at' (us.getD k Unt.d).side ≤ st

theorem pre_all {st : Int} {us : List Unt} (h0 : 0 ≤ st) : ∀ {n : Nat}, (∀ k, k < n → (us.getD k Unt.d).side = 0 ∨ (us.getD k Unt.d).side = 1) → pre st us n →
    ∀ i : Int, 0 ≤ i → (cnt us n i 0 = 0 ∨ cnt us n i 1 = 0) ∧ cnt us n i 0 ≤ st ∧ cnt us n i 1 ≤ st
  | 0, _, _, i, _ => by simp [cnt, selU, h0]
  | n + 1, hs, hp, i, hi => by
    have ih := pre_all (n := n) h0 (fun k hk => hs k (by omega)) (fun k hk => hp k (by omega)) i hi
    by_cases e : (us.getD n Unt.d).at' = i
    · have h1 := hp n (by omega) (by omega)
      rw [e] at h1
      rcases hs n (by omega) with e2 | e2
      · rw [e2] at h1
        have h2 : cnt us (n + 1) i 1 = 0 := h1.1
        exact ⟨.inr h2, h1.2, by omega⟩
      · rw [e2] at h1
        have h2 : cnt us (n + 1) i 0 = 0 := h1.1
        exact ⟨.inl h2, by omega, h1.2⟩
    · have z : ∀ s, cnt us (n + 1) i s = cnt us n i s := by
        intro s
        rw [cnt_succ, if_neg (by rw [atQ, show ((us.getD n Unt.d).at' == i) = false from beq_eq_false_iff_ne.2 e]; simp)]; omega
      rw [z, z]; exact ih

theorem stk_pre {st : Int} {us : List Unt} (h0 : 0 ≤ st) (hs : ∀ k, k < us.length → (us.getD k Unt.d).side = 0 ∨ (us.getD k Unt.d).side = 1) : stk st us ↔ pre st us us.length := by
  constructor
  · intro h k hk ha
    obtain ⟨h1, h2⟩ := h k hk ha
    have m1 := cnt_mono us (show k + 1 ≤ us.length by omega) (us.getD k Unt.d).at' (1 - (us.getD k Unt.d).side)
    have m2 := cnt_mono us (show k + 1 ≤ us.length by omega) (us.getD k Unt.d).at' (us.getD k Unt.d).side
    have p1 := (cnt_b us (k + 1) (us.getD k Unt.d).at' (1 - (us.getD k Unt.d).side)).1
    exact ⟨by omega, by omega⟩
  · intro h k hk ha
    obtain ⟨h1, h2, h3⟩ := pre_all h0 hs h _ ha
    have hp := cnt_pos (us := us) (n := us.length) hk rfl rfl
    rcases hs k hk with e | e
    · rw [e] at hp ⊢
      exact ⟨by show cnt us us.length _ 1 = 0; omega, h2⟩
    · rw [e] at hp ⊢
      exact ⟨by show cnt us us.length _ 0 = 0; omega, h3⟩

noncomputable instance instStk (st : Int) (us : List Unt) : Decidable (stk st us) := Classical.propDecidable _

noncomputable def okSt (b : Brd) (s : Stt) : Bool := In s.turn 0 b.r.turns && In s.wea 0 2 && decide (s.un.length ≤ 12) && s.un.all (okUnt b) && @decide (stk b.r.stack s.un) (instStk b.r.stack s.un)

theorem all_drop_ne {α : Type} {q : α → Bool} {l : List α} {d : α} {t : Int} (h0 : 0 ≤ t) (h1 : t < l.length) (h : q (l.getD t.toNat d) = false) : l.all q = false := by
  have hm := getD_memT (d := d) h0 h1
  cases e : l.all q with
  | false => rfl
  | true => rw [List.all_eq_true.1 e _ hm] at h; exact h

theorem all_of_lt {α : Type} {q : α → Bool} {l : List α} (d : α) (h : ∀ k, k < l.length → q (l.getD k d) = true) : l.all q = true := by
  rw [List.all_eq_true]
  intro x hx
  obtain ⟨k, hk, rfl⟩ := List.mem_iff_getElem.1 hx
  have := h k hk
  rwa [List.getD_eq_getElem?_getD, List.getElem?_eq_getElem hk] at this

theorem F_sGood (b : Brd) (ho : b.Ok) (s : Stt) (hs : s.Ok) : Fun E0 54 [.agg b.cs, .agg s.cs] [] (.v (vB (okBrd b && okSt b s))) [] [] := by
  refine Fun_of_xc k54 rfl rfl (fun k q h => by cases h) ?_
  ((conv=>whnf);repeat((first|refine Ct ‹_› ?_|refine Cf ‹_› ?_|refine Ct rfl ?_|refine Cf rfl ?_|refine Bi rfl ?_|refine Bz rfl ?_|refine Lr ?_);conv=>whnf))
  (refine CallQ_some (F_bGood b ho) ?_ ?_ ?_; rfl; rfl); ((conv=>whnf);repeat((first|refine Ct ‹_› ?_|refine Cf ‹_› ?_|refine Ct rfl ?_|refine Cf rfl ?_|refine Bi rfl ?_|refine Bz rfl ?_|refine Lr ?_);conv=>whnf))
  refine Cnd_i (fun g => ?_) (fun g => ?_)
  · have e0 : okBrd b = false := by simpa using g
    ((conv=>whnf);repeat((first|refine Ct ‹_› ?_|refine Cf ‹_› ?_|refine Ct rfl ?_|refine Cf rfl ?_|refine Bi rfl ?_|refine Bz rfl ?_|refine Lr ?_);conv=>whnf))
    rw [e0]
    exact ⟨rfl, rfl, rfl⟩
  have e0 : okBrd b = true := by simpa using g
  have h := GB.of ho e0
  ((conv=>whnf);repeat((first|refine Ct ‹_› ?_|refine Cf ‹_› ?_|refine Ct rfl ?_|refine Cf rfl ?_|refine Bi rfl ?_|refine Bz rfl ?_|refine Lr ?_);conv=>whnf))
  (refine CallQ_some (F_l1In _ _ _) ?_ ?_ ?_; rfl; rfl); ((conv=>whnf);repeat((first|refine Ct ‹_› ?_|refine Cf ‹_› ?_|refine Ct rfl ?_|refine Cf rfl ?_|refine Bi rfl ?_|refine Bz rfl ?_|refine Lr ?_);conv=>whnf))
  refine Cnd_i (fun g => ?_) (fun g => ?_)
  · have e1 : In s.turn 0 b.r.turns = false := by simpa using g
    ((conv=>whnf);repeat((first|refine Ct ‹_› ?_|refine Cf ‹_› ?_|refine Ct rfl ?_|refine Cf rfl ?_|refine Bi rfl ?_|refine Bz rfl ?_|refine Lr ?_);conv=>whnf))
    rw [e0, okSt, e1]
    exact ⟨rfl, rfl, rfl⟩
  have e1 : In s.turn 0 b.r.turns = true := by simpa using g
  ((conv=>whnf);repeat((first|refine Ct ‹_› ?_|refine Cf ‹_› ?_|refine Ct rfl ?_|refine Cf rfl ?_|refine Bi rfl ?_|refine Bz rfl ?_|refine Lr ?_);conv=>whnf))
  (refine CallQ_some (F_l1In _ _ _) ?_ ?_ ?_; rfl; rfl); ((conv=>whnf);repeat((first|refine Ct ‹_› ?_|refine Cf ‹_› ?_|refine Ct rfl ?_|refine Cf rfl ?_|refine Bi rfl ?_|refine Bz rfl ?_|refine Lr ?_);conv=>whnf))
  refine Cnd_i (fun g => ?_) (fun g => ?_)
  · have e2 : In s.wea 0 2 = false := by simpa using g
    ((conv=>whnf);repeat((first|refine Ct ‹_› ?_|refine Cf ‹_› ?_|refine Ct rfl ?_|refine Cf rfl ?_|refine Bi rfl ?_|refine Bz rfl ?_|refine Lr ?_);conv=>whnf))
    rw [e0, okSt, e1, e2]
    exact ⟨rfl, rfl, rfl⟩
  have e2 : In s.wea 0 2 = true := by simpa using g
  ((conv=>whnf);repeat((first|refine Ct ‹_› ?_|refine Cf ‹_› ?_|refine Ct rfl ?_|refine Cf rfl ?_|refine Bi rfl ?_|refine Bz rfl ?_|refine Lr ?_);conv=>whnf))
  refine Cnd_i (fun g => ?_) (fun g => ?_)
  · have e3 : decide (s.un.length ≤ 12) = false := by
      have := of_decide_eq_true g
      exact decide_eq_false (by omega)
    ((conv=>whnf);repeat((first|refine Ct ‹_› ?_|refine Cf ‹_› ?_|refine Ct rfl ?_|refine Cf rfl ?_|refine Bi rfl ?_|refine Bz rfl ?_|refine Lr ?_);conv=>whnf))
    rw [e0, okSt, e1, e2, e3]
    exact ⟨rfl, rfl, rfl⟩
  have hl : s.un.length ≤ 12 := by
    have := of_decide_eq_false g
    omega
  have e3 : decide (s.un.length ≤ 12) = true := decide_eq_true hl
  ((conv=>whnf);repeat((first|refine Ct ‹_› ?_|refine Cf ‹_› ?_|refine Ct rfl ?_|refine Cf rfl ?_|refine Bi rfl ?_|refine Bz rfl ?_|refine Lr ?_);conv=>whnf))
  refine WLoop_v ⟨[2, 3, 34, 35, 36], [2, 3], []⟩ (fun t : Int => hdS 80 [(2, .v (.one (.box 2 0))), (3, .v (.one (.box 3 0))), (34, .v (.one (roU s.un))), (35, .v (vI s.un.length)), (36, .v (vI t))] [(2, b.cs), (3, s.cs)] [])
    (fun n t => 0 ≤ t ∧ t + n = s.un.length ∧ ∀ k : Nat, (k : Int) < t → okUnt b (s.un.getD k Unt.d) = true) s.un.length 0 rfl ⟨by omega, by omega, fun k hk => by omega⟩ ?_
  rintro n t ⟨h1, h2, h3⟩
  ((conv=>whnf);repeat((first|refine Ct ‹_› ?_|refine Cf ‹_› ?_|refine Ct rfl ?_|refine Cf rfl ?_|refine Bi rfl ?_|refine Bz rfl ?_|refine Lr ?_);conv=>whnf))
  refine Cnd_i (fun g => ?_) (fun g => ?_)
  · have ht := of_decide_eq_true g
    ((conv=>whnf);repeat((first|refine Ct ‹_› ?_|refine Cf ‹_› ?_|refine Ct rfl ?_|refine Cf rfl ?_|refine Bi rfl ?_|refine Bz rfl ?_|refine Lr ?_);conv=>whnf))
    refine Bnd_i (⟨h1, ht⟩) ?_; ((conv=>whnf);repeat((first|refine Ct ‹_› ?_|refine Cf ‹_› ?_|refine Ct rfl ?_|refine Cf rfl ?_|refine Bi rfl ?_|refine Bz rfl ?_|refine Lr ?_);conv=>whnf))
    (refine CallQ_some (F_sUnit b h (s.un.getD t.toNat Unt.d)) ?_ ?_ ?_; rfl; rfl); ((conv=>whnf);repeat((first|refine Ct ‹_› ?_|refine Cf ‹_› ?_|refine Ct rfl ?_|refine Cf rfl ?_|refine Bi rfl ?_|refine Bz rfl ?_|refine Lr ?_);conv=>whnf))
    refine Cnd_i (fun g => ?_) (fun g => ?_)
    · have e4 : okUnt b (s.un.getD t.toNat Unt.d) = false := by simpa using g
      ((conv=>whnf);repeat((first|refine Ct ‹_› ?_|refine Cf ‹_› ?_|refine Ct rfl ?_|refine Cf rfl ?_|refine Bi rfl ?_|refine Bz rfl ?_|refine Lr ?_);conv=>whnf))
      rw [e0, okSt, e1, e2, e3, all_drop_ne h1 ht e4]
      exact ⟨rfl, rfl, rfl⟩
    have e4 : okUnt b (s.un.getD t.toNat Unt.d) = true := by simpa using g
    ((conv=>whnf);repeat((first|refine Ct ‹_› ?_|refine Cf ‹_› ?_|refine Ct rfl ?_|refine Cf rfl ?_|refine Bi rfl ?_|refine Bz rfl ?_|refine Lr ?_);conv=>whnf))
    refine ⟨n - 1, t + 1, ?_, by omega, by omega, by omega, fun k hk => ?_⟩
    · rw [wrapI (by omega)]; rfl
    · by_cases e : (k : Int) < t
      · exact h3 k e
      · rw [show k = t.toNat by omega]; exact e4
  have ht := of_decide_eq_false g
  have hu : ∀ k, k < s.un.length → okUnt b (s.un.getD k Unt.d) = true := fun k hk => h3 k (by omega)
  have e4 : s.un.all (okUnt b) = true := all_of_lt Unt.d hu
  have hU : ∀ k, k < s.un.length → UnOk b (s.un.getD k Unt.d) := fun k hk => UnOk.of h (hu k hk)
  ((conv=>whnf);repeat((first|refine Ct ‹_› ?_|refine Cf ‹_› ?_|refine Ct rfl ?_|refine Cf rfl ?_|refine Bi rfl ?_|refine Bz rfl ?_|refine Lr ?_);conv=>whnf))
  refine WLoop_v ⟨[2, 3, 46, 47, 48], [2, 3], []⟩ (fun t : Int => hdS 80 [(2, .v (.one (.box 2 0))), (3, .v (.one (.box 3 0))), (46, .v (.one (roU s.un))), (47, .v (vI s.un.length)), (48, .v (vI t))] [(2, b.cs), (3, s.cs)] [])
    (fun n t => 0 ≤ t ∧ t + n = s.un.length ∧ ∀ k : Nat, (k : Int) < t → 0 ≤ (s.un.getD k Unt.d).at' → cnt s.un s.un.length (s.un.getD k Unt.d).at' (1 - (s.un.getD k Unt.d).side) = 0 ∧ cnt s.un s.un.length (s.un.getD k Unt.d).at' (s.un.getD k Unt.d).side ≤ b.r.stack) s.un.length 0 rfl ⟨by omega, by omega, fun k hk => by omega⟩ ?_
  rintro n t ⟨h1, h2, h3⟩
  ((conv=>whnf);repeat((first|refine Ct ‹_› ?_|refine Cf ‹_› ?_|refine Ct rfl ?_|refine Cf rfl ?_|refine Bi rfl ?_|refine Bz rfl ?_|refine Lr ?_);conv=>whnf))
  refine Cnd_i (fun g => ?_) (fun g => ?_)
  · have ht := of_decide_eq_true g
    have hX := hU t.toNat (by omega)
    have hn : s.un.length - 1 - (s.un.length - 1) = 0 := by omega
    ((conv=>whnf);repeat((first|refine Ct ‹_› ?_|refine Cf ‹_› ?_|refine Ct rfl ?_|refine Cf rfl ?_|refine Bi rfl ?_|refine Bz rfl ?_|refine Lr ?_);conv=>whnf))
    refine Bnd_i (⟨h1, ht⟩) ?_; ((conv=>whnf);repeat((first|refine Ct ‹_› ?_|refine Cf ‹_› ?_|refine Ct rfl ?_|refine Cf rfl ?_|refine Bi rfl ?_|refine Bz rfl ?_|refine Lr ?_);conv=>whnf))
    refine Cnd_i (fun g5 => ?_) (fun g5 => ?_)
    · have d5 := of_decide_eq_true g5
      ((conv=>whnf);repeat((first|refine Ct ‹_› ?_|refine Cf ‹_› ?_|refine Ct rfl ?_|refine Cf rfl ?_|refine Bi rfl ?_|refine Bz rfl ?_|refine Lr ?_);conv=>whnf))
      rw [wrapI (n := 1 - (s.un.getD t.toNat Unt.d).side) (by have := hX.side; omega)]
      (refine CallQ_some (F_sAt s (by omega) (s.un.getD t.toNat Unt.d).at' (1 - (s.un.getD t.toNat Unt.d).side)) ?_ ?_ ?_; rfl; rfl); ((conv=>whnf);repeat((first|refine Ct ‹_› ?_|refine Cf ‹_› ?_|refine Ct rfl ?_|refine Cf rfl ?_|refine Bi rfl ?_|refine Bz rfl ?_|refine Lr ?_);conv=>whnf))
      refine Cnd_i (fun g6 => ?_) (fun g6 => ?_)
      · have d6 := of_decide_eq_true g6
        ((conv=>whnf);repeat((first|refine Ct ‹_› ?_|refine Cf ‹_› ?_|refine Ct rfl ?_|refine Cf rfl ?_|refine Bi rfl ?_|refine Bz rfl ?_|refine Lr ?_);conv=>whnf))
        have e5 : ¬ stk b.r.stack s.un := fun hh => by
          have := (hh t.toNat (by omega) d5).1
          unfold cnt at this
          omega
        rw [e0, okSt, e1, e2, e3, e4, decide_eq_false e5]
        exact ⟨rfl, rfl, rfl⟩
      have d6 := of_decide_eq_false g6
      ((conv=>whnf);repeat((first|refine Ct ‹_› ?_|refine Cf ‹_› ?_|refine Ct rfl ?_|refine Cf rfl ?_|refine Bi rfl ?_|refine Bz rfl ?_|refine Lr ?_);conv=>whnf))
      (refine CallQ_some (F_sAt s (by omega) (s.un.getD t.toNat Unt.d).at' (s.un.getD t.toNat Unt.d).side) ?_ ?_ ?_; rfl; rfl); ((conv=>whnf);repeat((first|refine Ct ‹_› ?_|refine Cf ‹_› ?_|refine Ct rfl ?_|refine Cf rfl ?_|refine Bi rfl ?_|refine Bz rfl ?_|refine Lr ?_);conv=>whnf))
      refine Cnd_i (fun g7 => ?_) (fun g7 => ?_)
      · have d7 := of_decide_eq_true g7
        ((conv=>whnf);repeat((first|refine Ct ‹_› ?_|refine Cf ‹_› ?_|refine Ct rfl ?_|refine Cf rfl ?_|refine Bi rfl ?_|refine Bz rfl ?_|refine Lr ?_);conv=>whnf))
        have e5 : ¬ stk b.r.stack s.un := fun hh => by
          have := (hh t.toNat (by omega) d5).2
          unfold cnt at this
          omega
        rw [e0, okSt, e1, e2, e3, e4, decide_eq_false e5]
        exact ⟨rfl, rfl, rfl⟩
      have d7 := of_decide_eq_false g7
      ((conv=>whnf);repeat((first|refine Ct ‹_› ?_|refine Cf ‹_› ?_|refine Ct rfl ?_|refine Cf rfl ?_|refine Bi rfl ?_|refine Bz rfl ?_|refine Lr ?_);conv=>whnf))
      refine ⟨n - 1, t + 1, ?_, by omega, by omega, by omega, fun k hk => ?_⟩
      · rw [wrapI (by omega)]; rfl
      · by_cases e : (k : Int) < t
        · exact h3 k e
        · rw [show k = t.toNat by omega]
          intro _
          unfold cnt
          omega
    · have d5 := of_decide_eq_false g5
      ((conv=>whnf);repeat((first|refine Ct ‹_› ?_|refine Cf ‹_› ?_|refine Ct rfl ?_|refine Cf rfl ?_|refine Bi rfl ?_|refine Bz rfl ?_|refine Lr ?_);conv=>whnf))
      refine ⟨n - 1, t + 1, ?_, by omega, by omega, by omega, fun k hk => ?_⟩
      · rw [wrapI (by omega)]; rfl
      · by_cases e : (k : Int) < t
        · exact h3 k e
        · rw [show k = t.toNat by omega]
          exact fun hh => absurd hh (by omega)
  have ht := of_decide_eq_false g
  ((conv=>whnf);repeat((first|refine Ct ‹_› ?_|refine Cf ‹_› ?_|refine Ct rfl ?_|refine Cf rfl ?_|refine Bi rfl ?_|refine Bz rfl ?_|refine Lr ?_);conv=>whnf))
  have e5 : stk b.r.stack s.un := fun k hk => h3 k (by omega)
  rw [e0, okSt, e1, e2, e3, e4, decide_eq_true e5]
  exact ⟨rfl, rfl, rfl⟩

theorem atQ_iff {i side : Int} {u : Unt} : atQ i side u = true ↔ u.at' = i ∧ u.side = side := by simp [atQ]

abbrev rwC (us : List Unt) (N : Nat) (t : Nat) : Row := ⟨false, 2, N, fun i j => cI (cnt us t i j)⟩

theorem F_goodState (b : Brd) (h : GB b) (s : Stt) (hs : s.Ok) : Fun E0 93 [.agg b.cs, .agg s.cs] [] (.v (vB (okSt b s))) [] [] := by
  have hst : 0 ≤ b.r.stack := by
    have := h.nums
    simp only [numsOk, Bool.and_eq_true] at this
    have := of_decide_eq_true this.1.1.1.1
    omega
  have hN := h.n
  have hNl : b.m.ter.length ≤ 1048576 := by have := h.wh.mul; omega
  refine Fun_of_xc k93 rfl rfl (fun k q h => by cases h) ?_
  ((conv=>whnf);repeat((first|refine Ct ‹_› ?_|refine Cf ‹_› ?_|refine Ct rfl ?_|refine Cf rfl ?_|refine Bi rfl ?_|refine Bz rfl ?_|refine Lr ?_);conv=>whnf))
  (refine CallQ_some (F_inRange _ _ _) ?_ ?_ ?_; rfl; rfl); ((conv=>whnf);repeat((first|refine Ct ‹_› ?_|refine Cf ‹_› ?_|refine Ct rfl ?_|refine Cf rfl ?_|refine Bi rfl ?_|refine Bz rfl ?_|refine Lr ?_);conv=>whnf))
  refine Cnd_i (fun g => ?_) (fun g => ?_)
  · have e1 : In s.turn 0 b.r.turns = false := by simpa using g
    ((conv=>whnf);repeat((first|refine Ct ‹_› ?_|refine Cf ‹_› ?_|refine Ct rfl ?_|refine Cf rfl ?_|refine Bi rfl ?_|refine Bz rfl ?_|refine Lr ?_);conv=>whnf))
    rw [okSt, e1]
    exact ⟨rfl, rfl, rfl⟩
  have e1 : In s.turn 0 b.r.turns = true := by simpa using g
  ((conv=>whnf);repeat((first|refine Ct ‹_› ?_|refine Cf ‹_› ?_|refine Ct rfl ?_|refine Cf rfl ?_|refine Bi rfl ?_|refine Bz rfl ?_|refine Lr ?_);conv=>whnf))
  (refine CallQ_some (F_inRange _ _ _) ?_ ?_ ?_; rfl; rfl); ((conv=>whnf);repeat((first|refine Ct ‹_› ?_|refine Cf ‹_› ?_|refine Ct rfl ?_|refine Cf rfl ?_|refine Bi rfl ?_|refine Bz rfl ?_|refine Lr ?_);conv=>whnf))
  refine Cnd_i (fun g => ?_) (fun g => ?_)
  · have e2 : In s.wea 0 2 = false := by simpa using g
    ((conv=>whnf);repeat((first|refine Ct ‹_› ?_|refine Cf ‹_› ?_|refine Ct rfl ?_|refine Cf rfl ?_|refine Bi rfl ?_|refine Bz rfl ?_|refine Lr ?_);conv=>whnf))
    rw [okSt, e1, e2]
    exact ⟨rfl, rfl, rfl⟩
  have e2 : In s.wea 0 2 = true := by simpa using g
  ((conv=>whnf);repeat((first|refine Ct ‹_› ?_|refine Cf ‹_› ?_|refine Ct rfl ?_|refine Cf rfl ?_|refine Bi rfl ?_|refine Bz rfl ?_|refine Lr ?_);conv=>whnf))
  refine Cnd_i (fun g => ?_) (fun g => ?_)
  · have e3 : decide (s.un.length ≤ 12) = false := by
      have := of_decide_eq_true g
      exact decide_eq_false (by omega)
    ((conv=>whnf);repeat((first|refine Ct ‹_› ?_|refine Cf ‹_› ?_|refine Ct rfl ?_|refine Cf rfl ?_|refine Bi rfl ?_|refine Bz rfl ?_|refine Lr ?_);conv=>whnf))
    rw [okSt, e1, e2, e3]
    exact ⟨rfl, rfl, rfl⟩
  have hl : s.un.length ≤ 12 := by
    have := of_decide_eq_false g
    omega
  have e3 : decide (s.un.length ≤ 12) = true := decide_eq_true hl
  ((conv=>whnf);repeat((first|refine Ct ‹_› ?_|refine Cf ‹_› ?_|refine Ct rfl ?_|refine Cf rfl ?_|refine Bi rfl ?_|refine Bz rfl ?_|refine Lr ?_);conv=>whnf))
  (refine CallQ_some (F_sizeOf b) ?_ ?_ ?_; rfl; rfl); ((conv=>whnf);repeat((first|refine Ct ‹_› ?_|refine Cf ‹_› ?_|refine Ct rfl ?_|refine Cf rfl ?_|refine Bi rfl ?_|refine Bz rfl ?_|refine Lr ?_);conv=>whnf))
  refine Bnd_i ?_ ?_
  · omega
  ((conv=>whnf);repeat((first|refine Ct ‹_› ?_|refine Cf ‹_› ?_|refine Ct rfl ?_|refine Cf rfl ?_|refine Bi rfl ?_|refine Bz rfl ?_|refine Lr ?_);conv=>whnf))
  refine Rw_i (rwC s.un b.m.ter.length 0) ⟨rfl, rfl, by simp [zeroRow], fun i j hi hj => ?_⟩ ?_
  · have hj : j < 2 := hj
    match j, hj with
    | 0, _ => rfl
    | 1, _ => rfl
  ((conv=>whnf);repeat((first|refine Ct ‹_› ?_|refine Cf ‹_› ?_|refine Ct rfl ?_|refine Cf rfl ?_|refine Bi rfl ?_|refine Bz rfl ?_|refine Lr ?_);conv=>whnf))
  refine WLoop_v ⟨[2, 5, 31, 32, 33], [2], []⟩ (fun t : Int => hdS 80 [(2, .v (.one (.box 2 0))), (5, .v (.one (.own (vkey 5) b.m.ter.length))), (31, .v (.one (roU s.un))), (32, .v (vI s.un.length)), (33, .v (vI t))] [(2, b.cs)] [(vkey 5, rwC s.un b.m.ter.length t.toNat)])
    (fun n t => 0 ≤ t ∧ t + n = s.un.length ∧ (∀ k : Nat, (k : Int) < t → okUnt b (s.un.getD k Unt.d) = true) ∧ pre b.r.stack s.un t.toNat) s.un.length 0 rfl ⟨by omega, by omega, fun k hk => by omega, fun k hk => by omega⟩ ?_
  rintro n t ⟨h1, h2, h3, h4⟩
  ((conv=>whnf);repeat((first|refine Ct ‹_› ?_|refine Cf ‹_› ?_|refine Ct rfl ?_|refine Cf rfl ?_|refine Bi rfl ?_|refine Bz rfl ?_|refine Lr ?_);conv=>whnf))
  refine Cnd_i (fun g => ?_) (fun g => ?_)
  · have ht := of_decide_eq_true g
    ((conv=>whnf);repeat((first|refine Ct ‹_› ?_|refine Cf ‹_› ?_|refine Ct rfl ?_|refine Cf rfl ?_|refine Bi rfl ?_|refine Bz rfl ?_|refine Lr ?_);conv=>whnf))
    refine Bnd_i (⟨h1, ht⟩) ?_; ((conv=>whnf);repeat((first|refine Ct ‹_› ?_|refine Cf ‹_› ?_|refine Ct rfl ?_|refine Cf rfl ?_|refine Bi rfl ?_|refine Bz rfl ?_|refine Lr ?_);conv=>whnf))
    (refine CallQ_some (F_goodUnit b h (s.un.getD t.toNat Unt.d)) ?_ ?_ ?_; rfl; rfl); ((conv=>whnf);repeat((first|refine Ct ‹_› ?_|refine Cf ‹_› ?_|refine Ct rfl ?_|refine Cf rfl ?_|refine Bi rfl ?_|refine Bz rfl ?_|refine Lr ?_);conv=>whnf))
    refine Cnd_i (fun g => ?_) (fun g => ?_)
    · have e4 : okUnt b (s.un.getD t.toNat Unt.d) = false := by simpa using g
      ((conv=>whnf);repeat((first|refine Ct ‹_› ?_|refine Cf ‹_› ?_|refine Ct rfl ?_|refine Cf rfl ?_|refine Bi rfl ?_|refine Bz rfl ?_|refine Lr ?_);conv=>whnf))
      rw [okSt, e1, e2, e3, all_drop_ne h1 ht e4]
      exact ⟨rfl, rfl, rfl⟩
    have e4 : okUnt b (s.un.getD t.toNat Unt.d) = true := by simpa using g
    have hU := UnOk.of h e4
    have h3' : ∀ k : Nat, (k : Int) < t + 1 → okUnt b (s.un.getD k Unt.d) = true := fun k hk => by
      by_cases e : (k : Int) < t
      · exact h3 k e
      · rw [show k = t.toNat by omega]; exact e4
    have hs1 := cnt_succ s.un t.toNat
    have hb1 := fun i s' => (cnt_b s.un t.toNat i s')
    ((conv=>whnf);repeat((first|refine Ct ‹_› ?_|refine Cf ‹_› ?_|refine Ct rfl ?_|refine Cf rfl ?_|refine Bi rfl ?_|refine Bz rfl ?_|refine Lr ?_);conv=>whnf))
    refine Cnd_i (fun g5 => ?_) (fun g5 => ?_)
    · have d5 := of_decide_eq_true g5
      ((conv=>whnf);repeat((first|refine Ct ‹_› ?_|refine Cf ‹_› ?_|refine Ct rfl ?_|refine Cf rfl ?_|refine Bi rfl ?_|refine Bz rfl ?_|refine Lr ?_);conv=>whnf))
      have hx : ∀ i : Nat, ∀ s', cnt s.un (t.toNat + 1) i s' = cnt s.un t.toNat i s' := fun i s' => by
        rw [hs1, if_neg (by rw [atQ, show ((s.un.getD t.toNat Unt.d).at' == (i : Int)) = false from beq_eq_false_iff_ne.2 (by omega)]; simp)]
        omega
      refine ⟨n - 1, t + 1, ?_, by omega, by omega, by omega, h3', ?_⟩
      · rw [wrapI (by omega), show (t + 1).toNat = t.toNat + 1 by omega]
        unfold rwC
        simp only [hx]
        rfl
      · rw [show (t + 1).toNat = t.toNat + 1 by omega]
        intro k hk ha
        by_cases e : k < t.toNat
        · exact h4 k e ha
        · rw [show k = t.toNat by omega] at ha
          omega
    · have d5 := of_decide_eq_false g5
      have hat : 0 ≤ (s.un.getD t.toNat Unt.d).at' ∧ (s.un.getD t.toNat Unt.d).at' < b.m.ter.length := by have := hU.at'; omega
      ((conv=>whnf);repeat((first|refine Ct ‹_› ?_|refine Cf ‹_› ?_|refine Ct rfl ?_|refine Cf rfl ?_|refine Bi rfl ?_|refine Bz rfl ?_|refine Lr ?_);conv=>whnf))
      refine Bnd_i (hat) ?_; ((conv=>whnf);repeat((first|refine Ct ‹_› ?_|refine Cf ‹_› ?_|refine Ct rfl ?_|refine Cf rfl ?_|refine Bi rfl ?_|refine Bz rfl ?_|refine Lr ?_);conv=>whnf))
      refine Bnd_i (⟨by have := hU.side; omega, by have := hU.side; show _ < (2 : Int); omega⟩) ?_; ((conv=>whnf);repeat((first|refine Ct ‹_› ?_|refine Cf ‹_› ?_|refine Ct rfl ?_|refine Cf rfl ?_|refine Bi rfl ?_|refine Bz rfl ?_|refine Lr ?_);conv=>whnf))
      have hsd := hU.side
      have hsi : 0 ≤ (s.un.getD t.toNat Unt.d).side ∧ (s.un.getD t.toNat Unt.d).side < ((2 : Nat) : Int) := by omega
      have hso : 0 + (s.un.getD t.toNat Unt.d).side.toNat * 1 + 1 ≤ 2 := by omega
      have hso2 : 0 + (1 - (s.un.getD t.toNat Unt.d).side).toNat * 1 + 1 ≤ 2 := by omega
      refine Bnd_i (Nat.ble_eq_true_of_le hso) ?_; ((conv=>whnf);repeat((first|refine Ct ‹_› ?_|refine Cf ‹_› ?_|refine Ct rfl ?_|refine Cf rfl ?_|refine Bi rfl ?_|refine Bz rfl ?_|refine Lr ?_);conv=>whnf))
      refine Bnd_i (hat) ?_; ((conv=>whnf);repeat((first|refine Ct ‹_› ?_|refine Cf ‹_› ?_|refine Ct rfl ?_|refine Cf rfl ?_|refine Bi rfl ?_|refine Bz rfl ?_|refine Lr ?_);conv=>whnf))
      refine Bnd_i (hsi) ?_; ((conv=>whnf);repeat((first|refine Ct ‹_› ?_|refine Cf ‹_› ?_|refine Ct rfl ?_|refine Cf rfl ?_|refine Bi rfl ?_|refine Bz rfl ?_|refine Lr ?_);conv=>whnf))
      refine Bnd_i (Nat.ble_eq_true_of_le hso) ?_; ((conv=>whnf);repeat((first|refine Ct ‹_› ?_|refine Cf ‹_› ?_|refine Ct rfl ?_|refine Cf rfl ?_|refine Bi rfl ?_|refine Bz rfl ?_|refine Lr ?_);conv=>whnf))
      refine Rw_i (rwC s.un b.m.ter.length (t.toNat + 1)) ⟨rfl, rfl, rfl, fun i j hi hj => ?_⟩ ?_
      · have hj : j < 2 := hj
        show wrG (rwC s.un b.m.ter.length t.toNat).get (s.un.getD t.toNat Unt.d).at'.toNat (0 + (s.un.getD t.toNat Unt.d).side.toNat * 1) [cI (IntKind.i64.wrap (cnt s.un t.toNat ((s.un.getD t.toNat Unt.d).at'.toNat : Nat) ((0 + (s.un.getD t.toNat Unt.d).side.toNat * 1 : Nat)) + 1))] i j = cI (cnt s.un (t.toNat + 1) i j)
        by_cases e : i = (s.un.getD t.toNat Unt.d).at'.toNat ∧ j = (s.un.getD t.toNat Unt.d).side.toNat
        · obtain ⟨rfl, rfl⟩ := e
          rw [wrG_in (by simp), show 0 + (s.un.getD t.toNat Unt.d).side.toNat * 1 = (s.un.getD t.toNat Unt.d).side.toNat by omega, hs1, if_pos (atQ_iff.2 ⟨by omega, by omega⟩), wrapI (by have := hb1 ((s.un.getD t.toNat Unt.d).at'.toNat : Nat) ((s.un.getD t.toNat Unt.d).side.toNat : Nat); omega)]
          simp [nth]
        · rw [wrG_out (by rintro ⟨e1, e2, e3⟩; have e3' : j < 0 + (s.un.getD t.toNat Unt.d).side.toNat * 1 + 1 := e3; exact e ⟨e1, by omega⟩)]
          show cI _ = cI _
          rw [hs1, if_neg (fun hh => e (by have := atQ_iff.1 hh; omega)), Int.add_zero]
      ((conv=>whnf);repeat((first|refine Ct ‹_› ?_|refine Cf ‹_› ?_|refine Ct rfl ?_|refine Cf rfl ?_|refine Bi rfl ?_|refine Bz rfl ?_|refine Lr ?_);conv=>whnf))
      refine Bnd_i (hat) ?_; ((conv=>whnf);repeat((first|refine Ct ‹_› ?_|refine Cf ‹_› ?_|refine Ct rfl ?_|refine Cf rfl ?_|refine Bi rfl ?_|refine Bz rfl ?_|refine Lr ?_);conv=>whnf))
      rw [wrapI (n := 1 - (s.un.getD t.toNat Unt.d).side) (by omega)]
      refine Bnd_i (⟨by omega, by omega⟩) ?_; ((conv=>whnf);repeat((first|refine Ct ‹_› ?_|refine Cf ‹_› ?_|refine Ct rfl ?_|refine Cf rfl ?_|refine Bi rfl ?_|refine Bz rfl ?_|refine Lr ?_);conv=>whnf))
      refine Bnd_i (Nat.ble_eq_true_of_le hso2) ?_; ((conv=>whnf);repeat((first|refine Ct ‹_› ?_|refine Cf ‹_› ?_|refine Ct rfl ?_|refine Cf rfl ?_|refine Bi rfl ?_|refine Bz rfl ?_|refine Lr ?_);conv=>whnf))
      have ea : (((s.un.getD t.toNat Unt.d).at'.toNat : Nat) : Int) = (s.un.getD t.toNat Unt.d).at' := by omega
      have eb : ((0 + (1 - (s.un.getD t.toNat Unt.d).side).toNat * 1 : Nat) : Int) = 1 - (s.un.getD t.toNat Unt.d).side := by omega
      have ec : ((0 + (s.un.getD t.toNat Unt.d).side.toNat * 1 : Nat) : Int) = (s.un.getD t.toNat Unt.d).side := by omega
      have bad : ¬ (cnt s.un (t.toNat + 1) (s.un.getD t.toNat Unt.d).at' (1 - (s.un.getD t.toNat Unt.d).side) = 0 ∧ cnt s.un (t.toNat + 1) (s.un.getD t.toNat Unt.d).at' (s.un.getD t.toNat Unt.d).side ≤ b.r.stack) → decide (stk b.r.stack s.un) = false := fun hh => by
        refine decide_eq_false fun hk => hh ?_
        have a1 := hk t.toNat (by omega) hat.1
        have a2 := cnt_mono s.un (show t.toNat + 1 ≤ s.un.length by omega) (s.un.getD t.toNat Unt.d).at' (1 - (s.un.getD t.toNat Unt.d).side)
        have a3 := cnt_mono s.un (show t.toNat + 1 ≤ s.un.length by omega) (s.un.getD t.toNat Unt.d).at' (s.un.getD t.toNat Unt.d).side
        have a4 := (cnt_b s.un (t.toNat + 1) (s.un.getD t.toNat Unt.d).at' (1 - (s.un.getD t.toNat Unt.d).side)).1
        omega
      have a4 := (cnt_b s.un (t.toNat + 1) (s.un.getD t.toNat Unt.d).at' (1 - (s.un.getD t.toNat Unt.d).side)).1
      refine Cnd_i (fun g6 => ?_) (fun g6 => ?_)
      · have d6 : cnt s.un (t.toNat + 1) ((s.un.getD t.toNat Unt.d).at'.toNat : Nat) ((0 + (1 - (s.un.getD t.toNat Unt.d).side).toNat * 1 : Nat)) > 0 := of_decide_eq_true g6
        rw [ea, eb] at d6
        ((conv=>whnf);repeat((first|refine Ct ‹_› ?_|refine Cf ‹_› ?_|refine Ct rfl ?_|refine Cf rfl ?_|refine Bi rfl ?_|refine Bz rfl ?_|refine Lr ?_);conv=>whnf))
        rw [okSt, e1, e2, e3, bad (by omega)]
        rw [Bool.and_false]
        exact ⟨rfl, rfl, rfl⟩
      · have d6 : ¬ cnt s.un (t.toNat + 1) ((s.un.getD t.toNat Unt.d).at'.toNat : Nat) ((0 + (1 - (s.un.getD t.toNat Unt.d).side).toNat * 1 : Nat)) > 0 := of_decide_eq_false g6
        rw [ea, eb] at d6
        ((conv=>whnf);repeat((first|refine Ct ‹_› ?_|refine Cf ‹_› ?_|refine Ct rfl ?_|refine Cf rfl ?_|refine Bi rfl ?_|refine Bz rfl ?_|refine Lr ?_);conv=>whnf))
        refine Bnd_i (hat) ?_; ((conv=>whnf);repeat((first|refine Ct ‹_› ?_|refine Cf ‹_› ?_|refine Ct rfl ?_|refine Cf rfl ?_|refine Bi rfl ?_|refine Bz rfl ?_|refine Lr ?_);conv=>whnf))
        refine Bnd_i (hsi) ?_; ((conv=>whnf);repeat((first|refine Ct ‹_› ?_|refine Cf ‹_› ?_|refine Ct rfl ?_|refine Cf rfl ?_|refine Bi rfl ?_|refine Bz rfl ?_|refine Lr ?_);conv=>whnf))
        refine Bnd_i (Nat.ble_eq_true_of_le hso) ?_; ((conv=>whnf);repeat((first|refine Ct ‹_› ?_|refine Cf ‹_› ?_|refine Ct rfl ?_|refine Cf rfl ?_|refine Bi rfl ?_|refine Bz rfl ?_|refine Lr ?_);conv=>whnf))
        refine Cnd_i (fun g7 => ?_) (fun g7 => ?_)
        · have d7 : cnt s.un (t.toNat + 1) ((s.un.getD t.toNat Unt.d).at'.toNat : Nat) ((0 + (s.un.getD t.toNat Unt.d).side.toNat * 1 : Nat)) > b.r.stack := of_decide_eq_true g7
          rw [ea, ec] at d7
          ((conv=>whnf);repeat((first|refine Ct ‹_› ?_|refine Cf ‹_› ?_|refine Ct rfl ?_|refine Cf rfl ?_|refine Bi rfl ?_|refine Bz rfl ?_|refine Lr ?_);conv=>whnf))
          rw [okSt, e1, e2, e3, bad (by omega)]
          rw [Bool.and_false]
          exact ⟨rfl, rfl, rfl⟩
        · have d7 : ¬ cnt s.un (t.toNat + 1) ((s.un.getD t.toNat Unt.d).at'.toNat : Nat) ((0 + (s.un.getD t.toNat Unt.d).side.toNat * 1 : Nat)) > b.r.stack := of_decide_eq_false g7
          rw [ea, ec] at d7
          ((conv=>whnf);repeat((first|refine Ct ‹_› ?_|refine Cf ‹_› ?_|refine Ct rfl ?_|refine Cf rfl ?_|refine Bi rfl ?_|refine Bz rfl ?_|refine Lr ?_);conv=>whnf))
          refine ⟨n - 1, t + 1, ?_, by omega, by omega, by omega, h3', ?_⟩
          · rw [wrapI (by omega), show (t + 1).toNat = t.toNat + 1 by omega]
            rfl
          · rw [show (t + 1).toNat = t.toNat + 1 by omega]
            intro k hk ha
            by_cases e : k < t.toNat
            · exact h4 k e ha
            · rw [show k = t.toNat by omega]
              exact ⟨by omega, by omega⟩
  · have ht := of_decide_eq_false g
    ((conv=>whnf);repeat((first|refine Ct ‹_› ?_|refine Cf ‹_› ?_|refine Ct rfl ?_|refine Cf rfl ?_|refine Bi rfl ?_|refine Bz rfl ?_|refine Lr ?_);conv=>whnf))
    have e4 : s.un.all (okUnt b) = true := all_of_lt Unt.d fun k hk => h3 k (by omega)
    have e5 : stk b.r.stack s.un := (stk_pre hst fun k hk => (UnOk.of h (h3 k (by omega))).side).2 (by rw [show s.un.length = t.toNat by omega]; exact h4)
    rw [okSt, e1, e2, e3, e4, decide_eq_true e5]
    exact ⟨rfl, rfl, rfl⟩

theorem F_fits (b : Brd) (ho : b.Ok) (s : Stt) (hs : s.Ok) : Fun E0 56 [.agg b.cs, .agg s.cs] [] (.v (vB (okBrd b && okSt b s))) [] [] := by
  refine Fun_of_xc k56 rfl rfl (fun k q h => by cases h) ?_
  ((conv=>whnf);repeat((first|refine Ct ‹_› ?_|refine Cf ‹_› ?_|refine Ct rfl ?_|refine Cf rfl ?_|refine Bi rfl ?_|refine Bz rfl ?_|refine Lr ?_);conv=>whnf))
  (refine CallQ_some (F_IsBoard b ho) ?_ ?_ ?_; rfl; rfl); ((conv=>whnf);repeat((first|refine Ct ‹_› ?_|refine Cf ‹_› ?_|refine Ct rfl ?_|refine Cf rfl ?_|refine Bi rfl ?_|refine Bz rfl ?_|refine Lr ?_);conv=>whnf))
  refine Cnd_i (fun g => ?_) (fun g => ?_)
  · ((conv=>whnf);repeat((first|refine Ct ‹_› ?_|refine Cf ‹_› ?_|refine Ct rfl ?_|refine Cf rfl ?_|refine Bi rfl ?_|refine Bz rfl ?_|refine Lr ?_);conv=>whnf))
    (refine CallQ_some (F_goodState b (GB.of ho g) s hs) ?_ ?_ ?_; rfl; rfl); ((conv=>whnf);repeat((first|refine Ct ‹_› ?_|refine Cf ‹_› ?_|refine Ct rfl ?_|refine Cf rfl ?_|refine Bi rfl ?_|refine Bz rfl ?_|refine Lr ?_);conv=>whnf))
    rw [g]
    exact ⟨rfl, rfl, rfl⟩
  · ((conv=>whnf);repeat((first|refine Ct ‹_› ?_|refine Cf ‹_› ?_|refine Ct rfl ?_|refine Cf rfl ?_|refine Bi rfl ?_|refine Bz rfl ?_|refine Lr ?_);conv=>whnf))
    rw [g]
    exact ⟨rfl, rfl, rfl⟩

structure StOk (b : Brd) (s : Stt) : Prop where
  gb : GB b
  turn : 0 ≤ s.turn ∧ s.turn ≤ b.r.turns
  wea : 0 ≤ s.wea ∧ s.wea ≤ 2
  len : s.un.length ≤ 12
  un : ∀ u ∈ s.un, UnOk b u
  stk : stk b.r.stack s.un

theorem StOk.of {b : Brd} {s : Stt} (ho : b.Ok) (h : (okBrd b && okSt b s) = true) : StOk b s := by
  simp only [okSt, Bool.and_eq_true] at h
  obtain ⟨h0, ⟨⟨⟨h1, h2⟩, h3⟩, h4⟩, h5⟩ := h
  have g := GB.of ho h0
  exact ⟨g, of_decide_eq_true h1, of_decide_eq_true h2, of_decide_eq_true h3, fun u hu => UnOk.of g (List.all_eq_true.1 h4 u hu), of_decide_eq_true h5⟩

theorem StOk.side {b : Brd} {s : Stt} (h : StOk b s) {k : Nat} (hk : k < s.un.length) : (s.un.getD k Unt.d).side = 0 ∨ (s.un.getD k Unt.d).side = 1 := by
  refine (h.un _ ?_).side
  have := getD_memT (l := s.un) (d := Unt.d) (i := (k : Int)) (by omega) (by omega)
  rwa [Int.toNat_natCast] at this

theorem ownR_spec (i : Int) (us : List Unt) : ((∀ k, k < us.length → (us.getD k Unt.d).at' ≠ i) ∧ ownR i us = -1) ∨ ∃ k, k < us.length ∧ (us.getD k Unt.d).at' = i ∧ (us.getD k Unt.d).side = ownR i us := by
  induction us with
  | nil => exact .inl ⟨fun k hk => by simp at hk, rfl⟩
  | cons u l ih =>
    by_cases e : u.at' = i
    · exact .inr ⟨0, by simp, by simpa using e, by rw [ownR, if_pos (by simpa using e)]; simp⟩
    · rw [ownR, if_neg (by simpa using e)]
      rcases ih with ⟨h1, h2⟩ | ⟨k, h1, h2, h3⟩
      · refine .inl ⟨fun k hk => ?_, h2⟩
        cases k with
        | zero => simpa using e
        | succ k => simpa using h1 k (by simpa using hk)
      · exact .inr ⟨k + 1, by simpa using h1, by simpa using h2, by simpa using h3⟩

def zDir (m : Map) (a i : Int) : Nat → Int → Bool
  | 0, _ => false
  | n + 1, d => if (nx m a d == i) = true then (!(m.riv.contains (ed m a d)) || m.roa.contains (ed m a d)) else zDir m a i n (d + 1)

/-- does a unit control a place -/
def zx (b : Brd) (u : Unt) (i : Int) : Bool := if decide (u.at' < 0) = true then false else if (b.r.knd.getD u.kind.toNat Knd.d).zone = true then
  if (costAt b u.kind i == 0) = true then false else zDir b.m u.at' i 6 0 else false

theorem F_zExerts (b : Brd) (s : Stt) (h : StOk b s) (t i : Int) (t0 : 0 ≤ t) (t1 : t < s.un.length) (i0 : 0 ≤ i) (i1 : i < b.m.ter.length) :
    Fun E0 128 [.agg b.cs, .agg s.cs, vI t, vI i] [] (.v (vB (zx b (s.un.getD t.toNat Unt.d) i))) [] [] := by
  have hU := h.un _ (getD_memT (d := Unt.d) t0 t1)
  have hk := hU.kind
  have hm := h.gb.wh.mul
  have hn := h.gb.n
  refine Fun_of_xc k128 rfl rfl (fun k q h => by cases h) ?_
  ((conv=>whnf);repeat((first|refine Ct ‹_› ?_|refine Cf ‹_› ?_|refine Ct rfl ?_|refine Cf rfl ?_|refine Bi rfl ?_|refine Bz rfl ?_|refine Lr ?_);conv=>whnf))
  refine Bnd_i (⟨t0, t1⟩) ?_; ((conv=>whnf);repeat((first|refine Ct ‹_› ?_|refine Cf ‹_› ?_|refine Ct rfl ?_|refine Cf rfl ?_|refine Bi rfl ?_|refine Bz rfl ?_|refine Lr ?_);conv=>whnf))
  refine Cnd_i (fun g1 => ?_) (fun g1 => ?_)
  · ((conv=>whnf);repeat((first|refine Ct ‹_› ?_|refine Cf ‹_› ?_|refine Ct rfl ?_|refine Cf rfl ?_|refine Bi rfl ?_|refine Bz rfl ?_|refine Lr ?_);conv=>whnf))
    rw [zx, if_pos g1]
    exact ⟨rfl, rfl, rfl⟩
  have e1 : ¬ decide ((s.un.getD t.toNat Unt.d).at' < 0) = true := by rw [g1]; simp
  have ha := of_decide_eq_false g1
  have hat : 0 ≤ (s.un.getD t.toNat Unt.d).at' ∧ (s.un.getD t.toNat Unt.d).at' < b.m.ter.length := by have := hU.at'; omega
  ((conv=>whnf);repeat((first|refine Ct ‹_› ?_|refine Cf ‹_› ?_|refine Ct rfl ?_|refine Cf rfl ?_|refine Bi rfl ?_|refine Bz rfl ?_|refine Lr ?_);conv=>whnf))
  refine Bnd_i (⟨hk.1, hk.2⟩) ?_; ((conv=>whnf);repeat((first|refine Ct ‹_› ?_|refine Cf ‹_› ?_|refine Ct rfl ?_|refine Cf rfl ?_|refine Bi rfl ?_|refine Bz rfl ?_|refine Lr ?_);conv=>whnf))
  refine Cnd_i (fun g2 => ?_) (fun g2 => ?_)
  · ((conv=>whnf);repeat((first|refine Ct ‹_› ?_|refine Cf ‹_› ?_|refine Ct rfl ?_|refine Cf rfl ?_|refine Bi rfl ?_|refine Bz rfl ?_|refine Lr ?_);conv=>whnf))
    have e2 : (b.r.knd.getD (s.un.getD t.toNat Unt.d).kind.toNat Knd.d).zone = false := by rwa [Bool.not_eq_true'] at g2
    rw [zx, if_neg e1, e2]
    exact ⟨rfl, rfl, rfl⟩
  have e2 : (b.r.knd.getD (s.un.getD t.toNat Unt.d).kind.toNat Knd.d).zone = true := by rwa [Bool.not_eq_false'] at g2
  ((conv=>whnf);repeat((first|refine Ct ‹_› ?_|refine Cf ‹_› ?_|refine Ct rfl ?_|refine Cf rfl ?_|refine Bi rfl ?_|refine Bz rfl ?_|refine Lr ?_);conv=>whnf))
  (refine CallQ_some (F_bCost b h.gb (s.un.getD t.toNat Unt.d).kind i i0 i1 hk.1 hk.2) ?_ ?_ ?_; rfl; rfl); ((conv=>whnf);repeat((first|refine Ct ‹_› ?_|refine Cf ‹_› ?_|refine Ct rfl ?_|refine Cf rfl ?_|refine Bi rfl ?_|refine Bz rfl ?_|refine Lr ?_);conv=>whnf))
  refine Cnd_i (fun g3 => ?_) (fun g3 => ?_)
  · ((conv=>whnf);repeat((first|refine Ct ‹_› ?_|refine Cf ‹_› ?_|refine Ct rfl ?_|refine Cf rfl ?_|refine Bi rfl ?_|refine Bz rfl ?_|refine Lr ?_);conv=>whnf))
    rw [zx, if_neg e1, if_pos e2, if_pos g3]
    exact ⟨rfl, rfl, rfl⟩
  ((conv=>whnf);repeat((first|refine Ct ‹_› ?_|refine Cf ‹_› ?_|refine Ct rfl ?_|refine Cf rfl ?_|refine Bi rfl ?_|refine Bz rfl ?_|refine Lr ?_);conv=>whnf))
  rw [zx, if_neg e1, if_pos e2, if_neg (by rw [g3]; simp)]
  generalize s.un.getD t.toNat Unt.d = u at hat hk ⊢
  refine WLoop_v ⟨[3, 4, 9, 10], [4, 9], []⟩ (fun (d : Int) => hdS 65 [(3, .v (vI i)), (4, .v (.one (.box 4 0))), (9, .v (.one (.box 9 0))), (10, .v (vI d))] [(4, b.cs), (9, u.cs)] [])
    (fun n d => 0 ≤ d ∧ d + n = 6 ∧ zDir b.m u.at' i n d = zDir b.m u.at' i 6 0) 6 0 rfl ⟨by omega, by omega, rfl⟩ ?_
  rintro n d ⟨h1, h2, h3⟩
  ((conv=>whnf);repeat((first|refine Ct ‹_› ?_|refine Cf ‹_› ?_|refine Ct rfl ?_|refine Cf rfl ?_|refine Bi rfl ?_|refine Bz rfl ?_|refine Lr ?_);conv=>whnf))
  refine Cnd_i (fun g => ?_) (fun g => ?_)
  · have hd := of_decide_eq_true g
    obtain ⟨n, rfl⟩ : ∃ n', n = n' + 1 := ⟨n - 1, by omega⟩
    rw [zDir] at h3
    ((conv=>whnf);repeat((first|refine Ct ‹_› ?_|refine Cf ‹_› ?_|refine Ct rfl ?_|refine Cf rfl ?_|refine Bi rfl ?_|refine Bz rfl ?_|refine Lr ?_);conv=>whnf))
    (refine CallQ_some (F_mNext b.m h.gb.wh u.at' d hat.1 (by omega) h1 (by omega)) ?_ ?_ ?_; rfl; rfl); ((conv=>whnf);repeat((first|refine Ct ‹_› ?_|refine Cf ‹_› ?_|refine Ct rfl ?_|refine Cf rfl ?_|refine Bi rfl ?_|refine Bz rfl ?_|refine Lr ?_);conv=>whnf))
    refine Cnd_i (fun g4 => ?_) (fun g4 => ?_)
    · rw [if_pos g4] at h3
      ((conv=>whnf);repeat((first|refine Ct ‹_› ?_|refine Cf ‹_› ?_|refine Ct rfl ?_|refine Cf rfl ?_|refine Bi rfl ?_|refine Bz rfl ?_|refine Lr ?_);conv=>whnf))
      (refine CallQ_some (F_mRiver b.m h.gb.wh h.gb.ok.m u.at' d hat.1 (by omega) h1 (by omega)) ?_ ?_ ?_; rfl; rfl); ((conv=>whnf);repeat((first|refine Ct ‹_› ?_|refine Cf ‹_› ?_|refine Ct rfl ?_|refine Cf rfl ?_|refine Bi rfl ?_|refine Bz rfl ?_|refine Lr ?_);conv=>whnf))
      refine Cnd_i (fun g5 => ?_) (fun g5 => ?_)
      · ((conv=>whnf);repeat((first|refine Ct ‹_› ?_|refine Cf ‹_› ?_|refine Ct rfl ?_|refine Cf rfl ?_|refine Bi rfl ?_|refine Bz rfl ?_|refine Lr ?_);conv=>whnf))
        rw [← h3, g5]
        exact ⟨rfl, rfl, rfl⟩
      · ((conv=>whnf);repeat((first|refine Ct ‹_› ?_|refine Cf ‹_› ?_|refine Ct rfl ?_|refine Cf rfl ?_|refine Bi rfl ?_|refine Bz rfl ?_|refine Lr ?_);conv=>whnf))
        (refine CallQ_some (F_mRoad b.m h.gb.wh h.gb.ok.m u.at' d hat.1 (by omega) h1 (by omega)) ?_ ?_ ?_; rfl; rfl); ((conv=>whnf);repeat((first|refine Ct ‹_› ?_|refine Cf ‹_› ?_|refine Ct rfl ?_|refine Cf rfl ?_|refine Bi rfl ?_|refine Bz rfl ?_|refine Lr ?_);conv=>whnf))
        rw [← h3, g5]
        exact ⟨rfl, rfl, rfl⟩
    · rw [if_neg (by rw [g4]; simp)] at h3
      ((conv=>whnf);repeat((first|refine Ct ‹_› ?_|refine Cf ‹_› ?_|refine Ct rfl ?_|refine Cf rfl ?_|refine Bi rfl ?_|refine Bz rfl ?_|refine Lr ?_);conv=>whnf))
      refine ⟨n, d + 1, ?_, by omega, by omega, by omega, h3⟩
      rw [wrapI (by omega)]; rfl
  · have hd := of_decide_eq_false g
    obtain rfl : n = 0 := by omega
    rw [zDir] at h3
    ((conv=>whnf);repeat((first|refine Ct ‹_› ?_|refine Cf ‹_› ?_|refine Ct rfl ?_|refine Cf rfl ?_|refine Bi rfl ?_|refine Bz rfl ?_|refine Lr ?_);conv=>whnf))
    rw [← h3]
    exact ⟨rfl, rfl, rfl⟩

theorem F_crossesFreely (m : Map) (ho : m.Ok) (e : Int) : Fun E0 129 [.agg m.cs, vI e] [] (.v (vB (!(m.riv.contains e) || m.roa.contains e))) [] [] := by
  refine Fun_of_xc k129 rfl rfl (fun k q h => by cases h) ?_
  ((conv=>whnf);repeat((first|refine Ct ‹_› ?_|refine Cf ‹_› ?_|refine Ct rfl ?_|refine Cf rfl ?_|refine Bi rfl ?_|refine Bz rfl ?_|refine Lr ?_);conv=>whnf))
  (refine CallQ_some (F_Contains _ _ ho.riv.len) ?_ ?_ ?_; rfl; rfl); ((conv=>whnf);repeat((first|refine Ct ‹_› ?_|refine Cf ‹_› ?_|refine Ct rfl ?_|refine Cf rfl ?_|refine Bi rfl ?_|refine Bz rfl ?_|refine Lr ?_);conv=>whnf))
  refine Cnd_i (fun g5 => ?_) (fun g5 => ?_)
  · ((conv=>whnf);repeat((first|refine Ct ‹_› ?_|refine Cf ‹_› ?_|refine Ct rfl ?_|refine Cf rfl ?_|refine Bi rfl ?_|refine Bz rfl ?_|refine Lr ?_);conv=>whnf))
    rw [g5]
    exact ⟨rfl, rfl, rfl⟩
  · ((conv=>whnf);repeat((first|refine Ct ‹_› ?_|refine Cf ‹_› ?_|refine Ct rfl ?_|refine Cf rfl ?_|refine Bi rfl ?_|refine Bz rfl ?_|refine Lr ?_);conv=>whnf))
    (refine CallQ_some (F_Contains _ _ ho.roa.len) ?_ ?_ ?_; rfl; rfl); ((conv=>whnf);repeat((first|refine Ct ‹_› ?_|refine Cf ‹_› ?_|refine Ct rfl ?_|refine Cf rfl ?_|refine Bi rfl ?_|refine Bz rfl ?_|refine Lr ?_);conv=>whnf))
    rw [g5]
    exact ⟨rfl, rfl, rfl⟩

theorem F_controls (b : Brd) (h : GB b) (u : Unt) (hU : UnOk b u) (i : Int) (i0 : 0 ≤ i) (i1 : i < b.m.ter.length) :
    Fun E0 118 [.agg b.cs, .agg u.cs, vI i] [] (.v (vB (zx b u i))) [] [] := by
  have hk := hU.kind
  have hm := h.wh.mul
  have hn := h.n
  refine Fun_of_xc k118 rfl rfl (fun k q h => by cases h) ?_
  ((conv=>whnf);repeat((first|refine Ct ‹_› ?_|refine Cf ‹_› ?_|refine Ct rfl ?_|refine Cf rfl ?_|refine Bi rfl ?_|refine Bz rfl ?_|refine Lr ?_);conv=>whnf))
  refine Cnd_i (fun g1 => ?_) (fun g1 => ?_)
  · ((conv=>whnf);repeat((first|refine Ct ‹_› ?_|refine Cf ‹_› ?_|refine Ct rfl ?_|refine Cf rfl ?_|refine Bi rfl ?_|refine Bz rfl ?_|refine Lr ?_);conv=>whnf))
    rw [zx, if_pos g1]
    exact ⟨rfl, rfl, rfl⟩
  have e1 : ¬ decide (u.at' < 0) = true := by rw [g1]; simp
  have ha := of_decide_eq_false g1
  have hat : 0 ≤ u.at' ∧ u.at' < b.m.ter.length := by have := hU.at'; omega
  ((conv=>whnf);repeat((first|refine Ct ‹_› ?_|refine Cf ‹_› ?_|refine Ct rfl ?_|refine Cf rfl ?_|refine Bi rfl ?_|refine Bz rfl ?_|refine Lr ?_);conv=>whnf))
  refine Bnd_i (⟨hk.1, hk.2⟩) ?_; ((conv=>whnf);repeat((first|refine Ct ‹_› ?_|refine Cf ‹_› ?_|refine Ct rfl ?_|refine Cf rfl ?_|refine Bi rfl ?_|refine Bz rfl ?_|refine Lr ?_);conv=>whnf))
  refine Cnd_i (fun g2 => ?_) (fun g2 => ?_)
  · ((conv=>whnf);repeat((first|refine Ct ‹_› ?_|refine Cf ‹_› ?_|refine Ct rfl ?_|refine Cf rfl ?_|refine Bi rfl ?_|refine Bz rfl ?_|refine Lr ?_);conv=>whnf))
    have e2 : (b.r.knd.getD u.kind.toNat Knd.d).zone = false := by rwa [Bool.not_eq_true'] at g2
    rw [zx, if_neg e1, e2]
    exact ⟨rfl, rfl, rfl⟩
  have e2 : (b.r.knd.getD u.kind.toNat Knd.d).zone = true := by rwa [Bool.not_eq_false'] at g2
  ((conv=>whnf);repeat((first|refine Ct ‹_› ?_|refine Cf ‹_› ?_|refine Ct rfl ?_|refine Cf rfl ?_|refine Bi rfl ?_|refine Bz rfl ?_|refine Lr ?_);conv=>whnf))
  (refine CallQ_some (F_enterCost b h u.kind i i0 i1 hk.1 hk.2) ?_ ?_ ?_; rfl; rfl); ((conv=>whnf);repeat((first|refine Ct ‹_› ?_|refine Cf ‹_› ?_|refine Ct rfl ?_|refine Cf rfl ?_|refine Bi rfl ?_|refine Bz rfl ?_|refine Lr ?_);conv=>whnf))
  refine Cnd_i (fun g3 => ?_) (fun g3 => ?_)
  · ((conv=>whnf);repeat((first|refine Ct ‹_› ?_|refine Cf ‹_› ?_|refine Ct rfl ?_|refine Cf rfl ?_|refine Bi rfl ?_|refine Bz rfl ?_|refine Lr ?_);conv=>whnf))
    rw [zx, if_neg e1, if_pos e2, if_pos g3]
    exact ⟨rfl, rfl, rfl⟩
  ((conv=>whnf);repeat((first|refine Ct ‹_› ?_|refine Cf ‹_› ?_|refine Ct rfl ?_|refine Cf rfl ?_|refine Bi rfl ?_|refine Bz rfl ?_|refine Lr ?_);conv=>whnf))
  rw [zx, if_neg e1, if_pos e2, if_neg (by rw [g3]; simp)]
  refine WLoop_v ⟨[2, 3, 4, 30], [3, 4], []⟩ (fun (d : Int) => hdS 51 [(2, .v (vI i)), (3, .v (.one (.box 3 0))), (4, .v (.one (.box 4 0))), (30, .v (vI d))] [(3, b.cs), (4, u.cs)] [])
    (fun n d => 0 ≤ d ∧ d + n = 6 ∧ zDir b.m u.at' i n d = zDir b.m u.at' i 6 0) 6 0 rfl ⟨by omega, by omega, rfl⟩ ?_
  rintro n d ⟨h1, h2, h3⟩
  ((conv=>whnf);repeat((first|refine Ct ‹_› ?_|refine Cf ‹_› ?_|refine Ct rfl ?_|refine Cf rfl ?_|refine Bi rfl ?_|refine Bz rfl ?_|refine Lr ?_);conv=>whnf))
  refine Cnd_i (fun g => ?_) (fun g => ?_)
  · have hd := of_decide_eq_true g
    obtain ⟨n, rfl⟩ : ∃ n', n = n' + 1 := ⟨n - 1, by omega⟩
    rw [zDir] at h3
    ((conv=>whnf);repeat((first|refine Ct ‹_› ?_|refine Cf ‹_› ?_|refine Ct rfl ?_|refine Cf rfl ?_|refine Bi rfl ?_|refine Bz rfl ?_|refine Lr ?_);conv=>whnf))
    (refine CallQ_some (F_nextTo b.m h.wh u.at' d hat.1 (by omega) h1 (by omega)) ?_ ?_ ?_; rfl; rfl); ((conv=>whnf);repeat((first|refine Ct ‹_› ?_|refine Cf ‹_› ?_|refine Ct rfl ?_|refine Cf rfl ?_|refine Bi rfl ?_|refine Bz rfl ?_|refine Lr ?_);conv=>whnf))
    refine Cnd_i (fun g4 => ?_) (fun g4 => ?_)
    · rw [if_pos g4] at h3
      have e4 : nx b.m u.at' d = i := by simpa using g4
      ((conv=>whnf);repeat((first|refine Ct ‹_› ?_|refine Cf ‹_› ?_|refine Ct rfl ?_|refine Cf rfl ?_|refine Bi rfl ?_|refine Bz rfl ?_|refine Lr ?_);conv=>whnf))
      (refine CallQ_some (F_edgeOf b.m h.wh u.at' d hat.1 (by omega) h1 (by omega) (by omega)) ?_ ?_ ?_; rfl; rfl); ((conv=>whnf);repeat((first|refine Ct ‹_› ?_|refine Cf ‹_› ?_|refine Ct rfl ?_|refine Cf rfl ?_|refine Bi rfl ?_|refine Bz rfl ?_|refine Lr ?_);conv=>whnf))
      (refine CallQ_some (F_crossesFreely b.m h.ok.m _) ?_ ?_ ?_; rfl; rfl); ((conv=>whnf);repeat((first|refine Ct ‹_› ?_|refine Cf ‹_› ?_|refine Ct rfl ?_|refine Cf rfl ?_|refine Bi rfl ?_|refine Bz rfl ?_|refine Lr ?_);conv=>whnf))
      rw [← h3]
      exact ⟨rfl, rfl, rfl⟩
    · rw [if_neg (by rw [g4]; simp)] at h3
      ((conv=>whnf);repeat((first|refine Ct ‹_› ?_|refine Cf ‹_› ?_|refine Ct rfl ?_|refine Cf rfl ?_|refine Bi rfl ?_|refine Bz rfl ?_|refine Lr ?_);conv=>whnf))
      refine ⟨n, d + 1, ?_, by omega, by omega, by omega, h3⟩
      rw [wrapI (by omega)]; rfl
  · have hd := of_decide_eq_false g
    obtain rfl : n = 0 := by omega
    rw [zDir] at h3
    ((conv=>whnf);repeat((first|refine Ct ‹_› ?_|refine Cf ‹_› ?_|refine Ct rfl ?_|refine Cf rfl ?_|refine Bi rfl ?_|refine Bz rfl ?_|refine Lr ?_);conv=>whnf))
    rw [← h3]
    exact ⟨rfl, rfl, rfl⟩

def zS (b : Brd) (side i : Int) (u : Unt) : Bool := u.side == side && zx b u i

def zn (b : Brd) (s : Stt) (side i : Int) : Bool := s.un.any (zS b side i)

theorem F_zSources (b : Brd) (s : Stt) (h : StOk b s) (side i : Int) (i0 : 0 ≤ i) (i1 : i < b.m.ter.length) :
    Fun E0 113 [.agg b.cs, .agg s.cs, vI side, vI i] [] (.v (.one (.own 0 (selU (zS b side i) s.un s.un.length).length))) [(0, rwI (selU (zS b side i) s.un s.un.length))] [] := by
  have hl := h.len
  refine Fun_of_xc k113 rfl rfl (nrC (rwI_no _) nrN) ?_
  ((conv=>whnf);repeat((first|refine Ct ‹_› ?_|refine Cf ‹_› ?_|refine Ct rfl ?_|refine Cf rfl ?_|refine Bi rfl ?_|refine Bz rfl ?_|refine Lr ?_);conv=>whnf))
  refine Rw_i (rwI []) (rwI_nil _) ?_
  ((conv=>whnf);repeat((first|refine Ct ‹_› ?_|refine Cf ‹_› ?_|refine Ct rfl ?_|refine Cf rfl ?_|refine Bi rfl ?_|refine Bz rfl ?_|refine Lr ?_);conv=>whnf))
  refine Rw_i (rwI []) (rwI_nil _) ?_
  ((conv=>whnf);repeat((first|refine Ct ‹_› ?_|refine Cf ‹_› ?_|refine Ct rfl ?_|refine Cf rfl ?_|refine Bi rfl ?_|refine Bz rfl ?_|refine Lr ?_);conv=>whnf))
  refine WLoop_v2 ⟨[2, 3, 4, 5, 9, 13, 14, 15], [4, 5], []⟩ (fun (t : Int) (out : List Int) => hdS 37 [(2, .v (vI side)), (3, .v (vI i)), (4, .v (.one (.box 4 0))), (5, .v (.one (.box 5 0))), (9, .v (.one (.own (vkey 9) out.length))), (13, .v (.one (roU s.un))), (14, .v (vI s.un.length)), (15, .v (vI t))] [(4, b.cs), (5, s.cs)] [(vkey 9, rwI out)])
    (fun n t out => 0 ≤ t ∧ t + n = s.un.length ∧ out = selU (zS b side i) s.un t.toNat) s.un.length 0 [] rfl ⟨by omega, by omega, rfl⟩ ?_
  rintro n t out ⟨h1, h2, h3⟩
  have hle := selU_le (zS b side i) s.un t.toNat
  rw [← h3] at hle
  have hnx : selU (zS b side i) s.un (t + 1).toNat = if zS b side i (s.un.getD t.toNat Unt.d) = true then out ++ [t] else out := by
    rw [show (t + 1).toNat = t.toNat + 1 by omega, selU, ← h3, show ((t.toNat : Nat) : Int) = t by omega]
  ((conv=>whnf);repeat((first|refine Ct ‹_› ?_|refine Cf ‹_› ?_|refine Ct rfl ?_|refine Cf rfl ?_|refine Bi rfl ?_|refine Bz rfl ?_|refine Lr ?_);conv=>whnf))
  refine Cnd_i (fun g => ?_) (fun g => ?_)
  · have ht := of_decide_eq_true g
    ((conv=>whnf);repeat((first|refine Ct ‹_› ?_|refine Cf ‹_› ?_|refine Ct rfl ?_|refine Cf rfl ?_|refine Bi rfl ?_|refine Bz rfl ?_|refine Lr ?_);conv=>whnf))
    refine Bnd_i (⟨h1, ht⟩) ?_; ((conv=>whnf);repeat((first|refine Ct ‹_› ?_|refine Cf ‹_› ?_|refine Ct rfl ?_|refine Cf rfl ?_|refine Bi rfl ?_|refine Bz rfl ?_|refine Lr ?_);conv=>whnf))
    refine Cnd_i (fun g2 => ?_) (fun g2 => ?_)
    · ((conv=>whnf);repeat((first|refine Ct ‹_› ?_|refine Cf ‹_› ?_|refine Ct rfl ?_|refine Cf rfl ?_|refine Bi rfl ?_|refine Bz rfl ?_|refine Lr ?_);conv=>whnf))
      (refine CallQ_some (F_zExerts b s h t i h1 ht i0 i1) ?_ ?_ ?_; rfl; rfl); ((conv=>whnf);repeat((first|refine Ct ‹_› ?_|refine Cf ‹_› ?_|refine Ct rfl ?_|refine Cf rfl ?_|refine Bi rfl ?_|refine Bz rfl ?_|refine Lr ?_);conv=>whnf))
      refine Cnd_i (fun g3 => ?_) (fun g3 => ?_)
      · ((conv=>whnf);repeat((first|refine Ct ‹_› ?_|refine Cf ‹_› ?_|refine Ct rfl ?_|refine Cf rfl ?_|refine Bi rfl ?_|refine Bz rfl ?_|refine Lr ?_);conv=>whnf))
        refine Rw_self ?_
        ((conv=>whnf);repeat((first|refine Ct ‹_› ?_|refine Cf ‹_› ?_|refine Ct rfl ?_|refine Cf rfl ?_|refine Bi rfl ?_|refine Bz rfl ?_|refine Lr ?_);conv=>whnf))
        refine Bnd_i ?_ ?_
        · show out.length + 1 < _
          omega
        ((conv=>whnf);repeat((first|refine Ct ‹_› ?_|refine Cf ‹_› ?_|refine Ct rfl ?_|refine Cf rfl ?_|refine Bi rfl ?_|refine Bz rfl ?_|refine Lr ?_);conv=>whnf))
        refine Rw_i (rwI (out ++ [t])) (rwI_app _ _ _ rfl) ?_
        ((conv=>whnf);repeat((first|refine Ct ‹_› ?_|refine Cf ‹_› ?_|refine Ct rfl ?_|refine Cf rfl ?_|refine Bi rfl ?_|refine Bz rfl ?_|refine Lr ?_);conv=>whnf))
        rw [if_pos (by rw [zS, g2, g3]; rfl)] at hnx
        refine ⟨n - 1, t + 1, out ++ [t], ?_, by omega, by omega, by omega, hnx.symm⟩
        rw [wrapI (by omega)]; rfl
      · ((conv=>whnf);repeat((first|refine Ct ‹_› ?_|refine Cf ‹_› ?_|refine Ct rfl ?_|refine Cf rfl ?_|refine Bi rfl ?_|refine Bz rfl ?_|refine Lr ?_);conv=>whnf))
        rw [if_neg (by rw [zS, g2, g3]; simp)] at hnx
        refine ⟨n - 1, t + 1, out, ?_, by omega, by omega, by omega, hnx.symm⟩
        rw [wrapI (by omega)]; rfl
    · ((conv=>whnf);repeat((first|refine Ct ‹_› ?_|refine Cf ‹_› ?_|refine Ct rfl ?_|refine Cf rfl ?_|refine Bi rfl ?_|refine Bz rfl ?_|refine Lr ?_);conv=>whnf))
      rw [if_neg (by rw [zS, g2]; simp)] at hnx
      refine ⟨n - 1, t + 1, out, ?_, by omega, by omega, by omega, hnx.symm⟩
      rw [wrapI (by omega)]; rfl
  · have ht := of_decide_eq_false g
    ((conv=>whnf);repeat((first|refine Ct ‹_› ?_|refine Cf ‹_› ?_|refine Ct rfl ?_|refine Cf rfl ?_|refine Bi rfl ?_|refine Bz rfl ?_|refine Lr ?_);conv=>whnf))
    rw [h3, show t.toNat = s.un.length by omega]
    exact ⟨rfl, rfl, rfl⟩

theorem selU_any (q : Unt → Bool) (us : List Unt) : decide (((selU q us us.length).length : Int) > 0) = us.any q := by
  have key : ∀ n, 0 < (selU q us n).length ↔ ∃ k, k < n ∧ q (us.getD k Unt.d) = true := by
    intro n
    induction n with
    | zero => simp [selU]
    | succ n ih =>
      rw [selU]
      split
      · rename_i e
        refine ⟨fun _ => ⟨n, by omega, e⟩, fun _ => by simp⟩
      · rename_i e
        rw [ih]
        constructor
        · rintro ⟨k, h1, h2⟩; exact ⟨k, by omega, h2⟩
        · rintro ⟨k, h1, h2⟩
          by_cases hk : k = n
          · subst hk; exact absurd h2 e
          · exact ⟨k, by omega, h2⟩
  have k2 : us.any q = true ↔ ∃ k, k < us.length ∧ q (us.getD k Unt.d) = true := by
    rw [List.any_eq_true]
    constructor
    · rintro ⟨x, hx, hq⟩
      obtain ⟨k, hk, rfl⟩ := List.mem_iff_getElem.1 hx
      exact ⟨k, hk, by simpa [hk] using hq⟩
    · rintro ⟨k, hk, hq⟩
      exact ⟨us[k], List.getElem_mem hk, by simpa [hk] using hq⟩
  rw [Bool.eq_iff_iff, decide_eq_true_eq, k2, ← key]
  omega

theorem F_zIn (b : Brd) (s : Stt) (h : StOk b s) (i side : Int) (i0 : 0 ≤ i) (i1 : i < b.m.ter.length) :
    Fun E0 80 [.agg b.cs, .agg s.cs, vI i, vI side] [] (.v (vB (zn b s side i))) [] [] := by
  refine Fun_of_xc k80 rfl rfl (fun k q h => by cases h) ?_
  ((conv=>whnf);repeat((first|refine Ct ‹_› ?_|refine Cf ‹_› ?_|refine Ct rfl ?_|refine Cf rfl ?_|refine Bi rfl ?_|refine Bz rfl ?_|refine Lr ?_);conv=>whnf))
  (refine CallQ_some (F_zSources b s h side i i0 i1) ?_ ?_ ?_; rfl; rfl); ((conv=>whnf);repeat((first|refine Ct ‹_› ?_|refine Cf ‹_› ?_|refine Ct rfl ?_|refine Cf rfl ?_|refine Bi rfl ?_|refine Bz rfl ?_|refine Lr ?_);conv=>whnf))
  rw [zn, ← selU_any]
  exact ⟨rfl, rfl, rfl⟩

theorem F_inZone (b : Brd) (s : Stt) (h : StOk b s) (side i : Int) (i0 : 0 ≤ i) (i1 : i < b.m.ter.length) :
    Fun E0 84 [.agg b.cs, .agg s.cs, vI side, vI i] [] (.v (vB (zn b s side i))) [] [] := by
  have hl := h.len
  refine Fun_of_xc k84 rfl rfl (fun k q h => by cases h) ?_
  ((conv=>whnf);repeat((first|refine Ct ‹_› ?_|refine Cf ‹_› ?_|refine Ct rfl ?_|refine Cf rfl ?_|refine Bi rfl ?_|refine Bz rfl ?_|refine Lr ?_);conv=>whnf))
  refine WLoop_v ⟨[2, 3, 4, 12, 13, 14], [4], []⟩ (fun (t : Int) => hdS 29 [(2, .v (vI side)), (3, .v (vI i)), (4, .v (.one (.box 4 0))), (12, .v (.one (roU s.un))), (13, .v (vI s.un.length)), (14, .v (vI t))] [(4, b.cs)] [])
    (fun n t => 0 ≤ t ∧ t + n = s.un.length ∧ (s.un.drop t.toNat).any (zS b side i) = zn b s side i) s.un.length 0 rfl ⟨by omega, by omega, rfl⟩ ?_
  rintro n t ⟨h1, h2, h3⟩
  ((conv=>whnf);repeat((first|refine Ct ‹_› ?_|refine Cf ‹_› ?_|refine Ct rfl ?_|refine Cf rfl ?_|refine Bi rfl ?_|refine Bz rfl ?_|refine Lr ?_);conv=>whnf))
  refine Cnd_i (fun g => ?_) (fun g => ?_)
  · have ht := of_decide_eq_true g
    have hU := h.un _ (getD_memT (d := Unt.d) h1 ht)
    rw [drop_cons (d := Unt.d) h1 ht, List.any_cons] at h3
    ((conv=>whnf);repeat((first|refine Ct ‹_› ?_|refine Cf ‹_› ?_|refine Ct rfl ?_|refine Cf rfl ?_|refine Bi rfl ?_|refine Bz rfl ?_|refine Lr ?_);conv=>whnf))
    refine Bnd_i (⟨h1, ht⟩) ?_; ((conv=>whnf);repeat((first|refine Ct ‹_› ?_|refine Cf ‹_› ?_|refine Ct rfl ?_|refine Cf rfl ?_|refine Bi rfl ?_|refine Bz rfl ?_|refine Lr ?_);conv=>whnf))
    refine Cnd_i (fun g2 => ?_) (fun g2 => ?_)
    · ((conv=>whnf);repeat((first|refine Ct ‹_› ?_|refine Cf ‹_› ?_|refine Ct rfl ?_|refine Cf rfl ?_|refine Bi rfl ?_|refine Bz rfl ?_|refine Lr ?_);conv=>whnf))
      (refine CallQ_some (F_controls b h.gb (s.un.getD t.toNat Unt.d) hU i i0 i1) ?_ ?_ ?_; rfl; rfl); ((conv=>whnf);repeat((first|refine Ct ‹_› ?_|refine Cf ‹_› ?_|refine Ct rfl ?_|refine Cf rfl ?_|refine Bi rfl ?_|refine Bz rfl ?_|refine Lr ?_);conv=>whnf))
      refine Cnd_i (fun g3 => ?_) (fun g3 => ?_)
      · ((conv=>whnf);repeat((first|refine Ct ‹_› ?_|refine Cf ‹_› ?_|refine Ct rfl ?_|refine Cf rfl ?_|refine Bi rfl ?_|refine Bz rfl ?_|refine Lr ?_);conv=>whnf))
        rw [← h3, zS, g2, g3]
        exact ⟨rfl, rfl, rfl⟩
      · ((conv=>whnf);repeat((first|refine Ct ‹_› ?_|refine Cf ‹_› ?_|refine Ct rfl ?_|refine Cf rfl ?_|refine Bi rfl ?_|refine Bz rfl ?_|refine Lr ?_);conv=>whnf))
        rw [zS, g2, g3] at h3
        refine ⟨n - 1, t + 1, ?_, by omega, by omega, by omega, h3⟩
        rw [wrapI (by omega)]; rfl
    · ((conv=>whnf);repeat((first|refine Ct ‹_› ?_|refine Cf ‹_› ?_|refine Ct rfl ?_|refine Cf rfl ?_|refine Bi rfl ?_|refine Bz rfl ?_|refine Lr ?_);conv=>whnf))
      rw [zS, g2] at h3
      refine ⟨n - 1, t + 1, ?_, by omega, by omega, by omega, h3⟩
      rw [wrapI (by omega)]; rfl
  · have ht := of_decide_eq_false g
    rw [show t.toNat = s.un.length by omega, List.drop_length] at h3
    ((conv=>whnf);repeat((first|refine Ct ‹_› ?_|refine Cf ‹_› ?_|refine Ct rfl ?_|refine Cf rfl ?_|refine Bi rfl ?_|refine Bz rfl ?_|refine Lr ?_);conv=>whnf))
    rw [← h3]
    exact ⟨rfl, rfl, rfl⟩

theorem StOk.own {b : Brd} {s : Stt} (h : StOk b s) (i : Int) : ownR i s.un = -1 ∨ ownR i s.un = 0 ∨ ownR i s.un = 1 := by
  rcases ownR_spec i s.un with ⟨_, e⟩ | ⟨k, h1, _, h3⟩
  · exact .inl e
  · have := h.side h1
    omega

/-- a row of n numbers -/
abbrev rwIn (n : Nat) (L : List Int) : Row := ⟨false, 1, n, fun i _ => cI (L.getD i 0)⟩

theorem rwIn_eq {n : Nat} {L : List Int} (h : L.length = n) : rwI L = rwIn n L := by subst h; rfl

theorem rwIn_set (n : Nat) (L : List Int) (x : Int) (i : Nat) (h : i < L.length) : RowEq ⟨false, 1, n, wrG (fun i _ => cI (L.getD i 0)) i 0 [cI x]⟩ (rwIn n (L.set i x)) := by
  refine ⟨rfl, rfl, rfl, fun i' j _ hj => ?_⟩
  have hj : j < 1 := hj
  obtain rfl : j = 0 := by omega
  show wrG (fun i _ => cI (L.getD i 0)) i 0 [cI x] i' 0 = cI ((L.set i x).getD i' 0)
  rw [getD_set L i x i' h]
  by_cases e : i' = i
  · subst e
    rw [wrG_in (by simp), if_pos rfl]; rfl
  · rw [wrG_out (fun hh => e hh.1), if_neg e]

theorem rwIn_zero (n : Nat) : RowEq (zeroRow false 1 n [cI 0]) (rwIn n (List.replicate n 0)) := by
  refine ⟨rfl, rfl, rfl, fun i j hi hj => ?_⟩
  have hj : j < 1 := hj
  obtain rfl : j = 0 := by omega
  show cI 0 = cI ((List.replicate n (0 : Int)).getD i 0)
  rw [List.getD_eq_getElem?_getD, List.getElem?_replicate]
  split <;> rfl

theorem F_mSizeB (b : Brd) (h : GB b) : Fun E0 90 [.agg b.m.cs] [] (.v (vI b.m.ter.length)) [] [] := by
  rw [h.n]; exact F_mSize b.m h.wh

structure HxB (q r : Int) : Prop where
  q : 0 ≤ q ∧ q ≤ 9
  r : 0 ≤ r ∧ r ≤ 9

structure PtB (q r n : Int) : Prop where
  n : 1 ≤ n ∧ n ≤ 18
  q : 0 ≤ q ∧ q ≤ 1000
  r : 0 ≤ r ∧ r ≤ 1000

theorem range_succ' {α : Type} (f : Nat → α) (t : Int) (h0 : 0 ≤ t) : (List.range (t + 1).toNat).map f = (List.range t.toNat).map f ++ [f t.toNat] := by
  rw [show (t + 1).toNat = t.toNat + 1 by omega, List.range_succ, List.map_append]; rfl

/-! ### a place to meet -/
def betM (L L' : List Int) (x y : Int) : Prop := max (L.getD x.toNat 0) (L'.getD x.toNat 0) < max (L.getD y.toNat 0) (L'.getD y.toNat 0) ∨ (max (L.getD x.toNat 0) (L'.getD x.toNat 0) = max (L.getD y.toNat 0) (L'.getD y.toNat 0) ∧ L.getD x.toNat 0 + L'.getD x.toNat 0 < L.getD y.toNat 0 + L'.getD y.toNat 0)

instance (L L' : List Int) (x y : Int) : Decidable (betM L L' x y) := by unfold betM; infer_instance

def okKi (b : Brd) (k i : Int) : Bool := okBrd b && In k 0 (b.r.knd.length - 1) && In i 0 (b.m.w * b.m.h - 1)

structure KiOk (b : Brd) (k i : Int) : Prop where
  gb : GB b
  k : 0 ≤ k ∧ k < b.r.knd.length
  i : 0 ≤ i ∧ i < b.m.ter.length

theorem KiOk.of {b : Brd} (ho : b.Ok) {k i : Int} (h : okKi b k i = true) : KiOk b k i := by
  simp only [okKi, Bool.and_eq_true] at h
  have g := GB.of ho h.1.1
  have a2 := of_decide_eq_true h.1.2
  have a3 := of_decide_eq_true h.2
  have := g.n
  exact ⟨g, by omega, by omega⟩

def okKd (b : Brd) (k : Int) : Bool := okBrd b && In k 0 (b.r.knd.length - 1)

structure KdOk (b : Brd) (k : Int) : Prop where
  gb : GB b
  k : 0 ≤ k ∧ k < b.r.knd.length

theorem KdOk.of {b : Brd} (ho : b.Ok) {k : Int} (h : okKd b k = true) : KdOk b k := by
  simp only [okKd, Bool.and_eq_true] at h
  have a2 := of_decide_eq_true h.2
  exact ⟨GB.of ho h.1, by omega⟩

def ctl (b : Brd) (s : Stt) (i : Int) : Int := if ownR i s.un ≥ 0 then ownR i s.un else if (zn b s 0 i && zn b s 1 i) = true then 2 else if zn b s 0 i = true then 0 else if zn b s 1 i = true then 1 else -1

theorem ctl_b {b : Brd} {s : Stt} (h : StOk b s) (i : Int) : -1 ≤ ctl b s i ∧ ctl b s i ≤ 2 := by
  have := h.own i
  unfold ctl
  split
  · omega
  · split
    · omega
    · split
      · omega
      · split <;> omega

theorem F_zControl (b : Brd) (s : Stt) (h : StOk b s) (i : Int) (i0 : 0 ≤ i) (i1 : i < b.m.ter.length) : Fun E0 91 [.agg b.cs, .agg s.cs, vI i] [] (.v (vI (ctl b s i))) [] [] := by
  have hl := h.len
  refine Fun_of_xc k91 rfl rfl (fun k q h => by cases h) ?_
  ((conv=>whnf);repeat((first|refine Ct ‹_› ?_|refine Cf ‹_› ?_|refine Ct rfl ?_|refine Cf rfl ?_|refine Bi rfl ?_|refine Bz rfl ?_|refine Lr ?_);conv=>whnf))
  (refine CallQ_some (F_sOwner s (by omega) i) ?_ ?_ ?_; rfl; rfl); ((conv=>whnf);repeat((first|refine Ct ‹_› ?_|refine Cf ‹_› ?_|refine Ct rfl ?_|refine Cf rfl ?_|refine Bi rfl ?_|refine Bz rfl ?_|refine Lr ?_);conv=>whnf))
  refine Cnd_i (fun g => ?_) (fun g => ?_)
  · have g := of_decide_eq_true g
    ((conv=>whnf);repeat((first|refine Ct ‹_› ?_|refine Cf ‹_› ?_|refine Ct rfl ?_|refine Cf rfl ?_|refine Bi rfl ?_|refine Bz rfl ?_|refine Lr ?_);conv=>whnf))
    rw [ctl, if_pos g]
    exact ⟨rfl, rfl, rfl⟩
  have g := of_decide_eq_false g
  unfold ctl
  rw [if_neg g]
  ((conv=>whnf);repeat((first|refine Ct ‹_› ?_|refine Cf ‹_› ?_|refine Ct rfl ?_|refine Cf rfl ?_|refine Bi rfl ?_|refine Bz rfl ?_|refine Lr ?_);conv=>whnf))
  (refine CallQ_some (F_zIn b s h i 0 i0 i1) ?_ ?_ ?_; rfl; rfl); ((conv=>whnf);repeat((first|refine Ct ‹_› ?_|refine Cf ‹_› ?_|refine Ct rfl ?_|refine Cf rfl ?_|refine Bi rfl ?_|refine Bz rfl ?_|refine Lr ?_);conv=>whnf))
  (refine CallQ_some (F_zIn b s h i 1 i0 i1) ?_ ?_ ?_; rfl; rfl); ((conv=>whnf);repeat((first|refine Ct ‹_› ?_|refine Cf ‹_› ?_|refine Ct rfl ?_|refine Cf rfl ?_|refine Bi rfl ?_|refine Bz rfl ?_|refine Lr ?_);conv=>whnf))
  generalize zn b s 0 i = z0
  generalize zn b s 1 i = z1
  cases z0 with
  | true =>
    cases z1 with
    | true =>
      ((conv=>whnf);repeat((first|refine Ct ‹_› ?_|refine Cf ‹_› ?_|refine Ct rfl ?_|refine Cf rfl ?_|refine Bi rfl ?_|refine Bz rfl ?_|refine Lr ?_);conv=>whnf))
      exact ⟨rfl, rfl, rfl⟩
    | false =>
      ((conv=>whnf);repeat((first|refine Ct ‹_› ?_|refine Cf ‹_› ?_|refine Ct rfl ?_|refine Cf rfl ?_|refine Bi rfl ?_|refine Bz rfl ?_|refine Lr ?_);conv=>whnf))
      exact ⟨rfl, rfl, rfl⟩
  | false =>
    cases z1 with
    | true =>
      ((conv=>whnf);repeat((first|refine Ct ‹_› ?_|refine Cf ‹_› ?_|refine Ct rfl ?_|refine Cf rfl ?_|refine Bi rfl ?_|refine Bz rfl ?_|refine Lr ?_);conv=>whnf))
      exact ⟨rfl, rfl, rfl⟩
    | false =>
      ((conv=>whnf);repeat((first|refine Ct ‹_› ?_|refine Cf ‹_› ?_|refine Ct rfl ?_|refine Cf rfl ?_|refine Bi rfl ?_|refine Bz rfl ?_|refine Lr ?_);conv=>whnf))
      exact ⟨rfl, rfl, rfl⟩

theorem F_controlOf (b : Brd) (s : Stt) (h : StOk b s) (i : Int) (i0 : 0 ≤ i) (i1 : i < b.m.ter.length) : Fun E0 57 [.agg b.cs, .agg s.cs, vI i] [] (.v (vI (ctl b s i))) [] [] := by
  have hl := h.len
  refine Fun_of_xc k57 rfl rfl (fun k q h => by cases h) ?_
  ((conv=>whnf);repeat((first|refine Ct ‹_› ?_|refine Cf ‹_› ?_|refine Ct rfl ?_|refine Cf rfl ?_|refine Bi rfl ?_|refine Bz rfl ?_|refine Lr ?_);conv=>whnf))
  (refine CallQ_some (F_ownerOf s (by omega) i) ?_ ?_ ?_; rfl; rfl); ((conv=>whnf);repeat((first|refine Ct ‹_› ?_|refine Cf ‹_› ?_|refine Ct rfl ?_|refine Cf rfl ?_|refine Bi rfl ?_|refine Bz rfl ?_|refine Lr ?_);conv=>whnf))
  (refine CallQ_some (F_inZone b s h 0 i i0 i1) ?_ ?_ ?_; rfl; rfl); ((conv=>whnf);repeat((first|refine Ct ‹_› ?_|refine Cf ‹_› ?_|refine Ct rfl ?_|refine Cf rfl ?_|refine Bi rfl ?_|refine Bz rfl ?_|refine Lr ?_);conv=>whnf))
  (refine CallQ_some (F_inZone b s h 1 i i0 i1) ?_ ?_ ?_; rfl; rfl); ((conv=>whnf);repeat((first|refine Ct ‹_› ?_|refine Cf ‹_› ?_|refine Ct rfl ?_|refine Cf rfl ?_|refine Bi rfl ?_|refine Bz rfl ?_|refine Lr ?_);conv=>whnf))
  refine Cnd_i (fun g => ?_) (fun g => ?_)
  · have g := of_decide_eq_true g
    ((conv=>whnf);repeat((first|refine Ct ‹_› ?_|refine Cf ‹_› ?_|refine Ct rfl ?_|refine Cf rfl ?_|refine Bi rfl ?_|refine Bz rfl ?_|refine Lr ?_);conv=>whnf))
    rw [ctl, if_pos g]
    exact ⟨rfl, rfl, rfl⟩
  have g := of_decide_eq_false g
  unfold ctl
  rw [if_neg g]
  ((conv=>whnf);repeat((first|refine Ct ‹_› ?_|refine Cf ‹_› ?_|refine Ct rfl ?_|refine Cf rfl ?_|refine Bi rfl ?_|refine Bz rfl ?_|refine Lr ?_);conv=>whnf))
  generalize zn b s 0 i = z0
  generalize zn b s 1 i = z1
  cases z0 with
  | true =>
    cases z1 with
    | true =>
      ((conv=>whnf);repeat((first|refine Ct ‹_› ?_|refine Cf ‹_› ?_|refine Ct rfl ?_|refine Cf rfl ?_|refine Bi rfl ?_|refine Bz rfl ?_|refine Lr ?_);conv=>whnf))
      exact ⟨rfl, rfl, rfl⟩
    | false =>
      ((conv=>whnf);repeat((first|refine Ct ‹_› ?_|refine Cf ‹_› ?_|refine Ct rfl ?_|refine Cf rfl ?_|refine Bi rfl ?_|refine Bz rfl ?_|refine Lr ?_);conv=>whnf))
      exact ⟨rfl, rfl, rfl⟩
  | false =>
    cases z1 with
    | true =>
      ((conv=>whnf);repeat((first|refine Ct ‹_› ?_|refine Cf ‹_› ?_|refine Ct rfl ?_|refine Cf rfl ?_|refine Bi rfl ?_|refine Bz rfl ?_|refine Lr ?_);conv=>whnf))
      exact ⟨rfl, rfl, rfl⟩
    | false =>
      ((conv=>whnf);repeat((first|refine Ct ‹_› ?_|refine Cf ‹_› ?_|refine Ct rfl ?_|refine Cf rfl ?_|refine Bi rfl ?_|refine Bz rfl ?_|refine Lr ?_);conv=>whnf))
      exact ⟨rfl, rfl, rfl⟩

def cmL (b : Brd) (s : Stt) : List Int := (List.range b.m.ter.length).map fun i : Nat => ctl b s i

theorem cmL_len (b : Brd) (s : Stt) : (cmL b s).length = b.m.ter.length := by simp [cmL]

theorem F_zMap (b : Brd) (s : Stt) (h : StOk b s) : Fun E0 55 [.agg b.cs, .agg s.cs] [] (.v (.one (.own 0 (cmL b s).length))) [(0, rwI (cmL b s))] [] := by
  have hm := h.gb.wh.mul
  have hn := h.gb.n
  refine Fun_of_xc k55 rfl rfl (nrC (rwI_no _) nrN) ?_
  ((conv=>whnf);repeat((first|refine Ct ‹_› ?_|refine Cf ‹_› ?_|refine Ct rfl ?_|refine Cf rfl ?_|refine Bi rfl ?_|refine Bz rfl ?_|refine Lr ?_);conv=>whnf))
  refine Rw_i (rwI []) (rwI_nil _) ?_
  ((conv=>whnf);repeat((first|refine Ct ‹_› ?_|refine Cf ‹_› ?_|refine Ct rfl ?_|refine Cf rfl ?_|refine Bi rfl ?_|refine Bz rfl ?_|refine Lr ?_);conv=>whnf))
  refine Rw_i (rwI []) (rwI_nil _) ?_
  ((conv=>whnf);repeat((first|refine Ct ‹_› ?_|refine Cf ‹_› ?_|refine Ct rfl ?_|refine Cf rfl ?_|refine Bi rfl ?_|refine Bz rfl ?_|refine Lr ?_);conv=>whnf))
  refine WLoop_v2 ⟨[2, 3, 5, 6], [2, 3], []⟩ (fun (t : Int) (out : List Int) => hdS 22 [(2, .v (.one (.box 2 0))), (3, .v (.one (.box 3 0))), (5, .v (.one (.own (vkey 5) out.length))), (6, .v (vI t))] [(2, b.cs), (3, s.cs)] [(vkey 5, rwI out)])
    (fun n t out => 0 ≤ t ∧ t + n = b.m.ter.length ∧ out = (List.range t.toNat).map fun i : Nat => ctl b s i) b.m.ter.length 0 [] rfl ⟨by omega, by omega, rfl⟩ ?_
  rintro n t out ⟨h1, h2, h3⟩
  have hol : out.length ≤ 100 := by rw [h3, List.length_map, List.length_range]; omega
  ((conv=>whnf);repeat((first|refine Ct ‹_› ?_|refine Cf ‹_› ?_|refine Ct rfl ?_|refine Cf rfl ?_|refine Bi rfl ?_|refine Bz rfl ?_|refine Lr ?_);conv=>whnf))
  (refine CallQ_some (F_mSizeB b h.gb) ?_ ?_ ?_; rfl; rfl); ((conv=>whnf);repeat((first|refine Ct ‹_› ?_|refine Cf ‹_› ?_|refine Ct rfl ?_|refine Cf rfl ?_|refine Bi rfl ?_|refine Bz rfl ?_|refine Lr ?_);conv=>whnf))
  refine Cnd_i (fun g => ?_) (fun g => ?_)
  · have ht := of_decide_eq_true g
    ((conv=>whnf);repeat((first|refine Ct ‹_› ?_|refine Cf ‹_› ?_|refine Ct rfl ?_|refine Cf rfl ?_|refine Bi rfl ?_|refine Bz rfl ?_|refine Lr ?_);conv=>whnf))
    (refine CallQ_some (F_zControl b s h t h1 ht) ?_ ?_ ?_; rfl; rfl); ((conv=>whnf);repeat((first|refine Ct ‹_› ?_|refine Cf ‹_› ?_|refine Ct rfl ?_|refine Cf rfl ?_|refine Bi rfl ?_|refine Bz rfl ?_|refine Lr ?_);conv=>whnf))
    refine Rw_self ?_
    ((conv=>whnf);repeat((first|refine Ct ‹_› ?_|refine Cf ‹_› ?_|refine Ct rfl ?_|refine Cf rfl ?_|refine Bi rfl ?_|refine Bz rfl ?_|refine Lr ?_);conv=>whnf))
    refine Bnd_i ?_ ?_
    · show out.length + 1 < _
      omega
    ((conv=>whnf);repeat((first|refine Ct ‹_› ?_|refine Cf ‹_› ?_|refine Ct rfl ?_|refine Cf rfl ?_|refine Bi rfl ?_|refine Bz rfl ?_|refine Lr ?_);conv=>whnf))
    refine Rw_i (rwI (out ++ [ctl b s t])) (rwI_app _ _ _ rfl) ?_
    ((conv=>whnf);repeat((first|refine Ct ‹_› ?_|refine Cf ‹_› ?_|refine Ct rfl ?_|refine Cf rfl ?_|refine Bi rfl ?_|refine Bz rfl ?_|refine Lr ?_);conv=>whnf))
    refine ⟨n - 1, t + 1, out ++ [ctl b s t], ?_, by omega, by omega, by omega, ?_⟩
    · rw [wrapI (by omega)]; rfl
    · rw [range_succ' _ t h1, ← h3, show ((t.toNat : Nat) : Int) = t by omega]
  · have ht := of_decide_eq_false g
    ((conv=>whnf);repeat((first|refine Ct ‹_› ?_|refine Cf ‹_› ?_|refine Ct rfl ?_|refine Cf rfl ?_|refine Bi rfl ?_|refine Bz rfl ?_|refine Lr ?_);conv=>whnf))
    rw [h3, show t.toNat = b.m.ter.length by omega, cmL]
    exact ⟨rfl, rfl, rfl⟩

noncomputable def cmpR (b : Brd) (s : Stt) : List Int × Bool := if (okBrd b && okSt b s) = true then (cmL b s, true) else ([], false)

theorem F_ControlMapI (b : Brd) (ho : b.Ok) (s : Stt) (hs : s.Ok) :
    Fun E0 28 [.agg b.cs, .agg s.cs] [] (.tup [.one (.own 0 (cmpR b s).1.length), vB (cmpR b s).2]) [(0, rwI (cmpR b s).1)] [] := by
  refine Fun_of_xc k28 rfl rfl (nrC (rwI_no _) nrN) ?_
  ((conv=>whnf);repeat((first|refine Ct ‹_› ?_|refine Cf ‹_› ?_|refine Ct rfl ?_|refine Cf rfl ?_|refine Bi rfl ?_|refine Bz rfl ?_|refine Lr ?_);conv=>whnf))
  refine Rw_i (rwI []) (rwI_nil _) ?_
  ((conv=>whnf);repeat((first|refine Ct ‹_› ?_|refine Cf ‹_› ?_|refine Ct rfl ?_|refine Cf rfl ?_|refine Bi rfl ?_|refine Bz rfl ?_|refine Lr ?_);conv=>whnf))
  (refine CallQ_some (F_fits b ho s hs) ?_ ?_ ?_; rfl; rfl); ((conv=>whnf);repeat((first|refine Ct ‹_› ?_|refine Cf ‹_› ?_|refine Ct rfl ?_|refine Cf rfl ?_|refine Bi rfl ?_|refine Bz rfl ?_|refine Lr ?_);conv=>whnf))
  refine Cnd_i (fun g => ?_) (fun g => ?_)
  · have e0 : (okBrd b && okSt b s) = false := by first | (rwa [Bool.not_eq_true'] at g) | (rwa [Bool.not_eq_false'] at g) | (simpa using g)
    ((conv=>whnf);repeat((first|refine Ct ‹_› ?_|refine Cf ‹_› ?_|refine Ct rfl ?_|refine Cf rfl ?_|refine Bi rfl ?_|refine Bz rfl ?_|refine Lr ?_);conv=>whnf))
    refine Rw_i (rwI []) (rwI_nil _) ?_
    ((conv=>whnf);repeat((first|refine Ct ‹_› ?_|refine Cf ‹_› ?_|refine Ct rfl ?_|refine Cf rfl ?_|refine Bi rfl ?_|refine Bz rfl ?_|refine Lr ?_);conv=>whnf))
    rw [cmpR, e0]
    exact ⟨rfl, rfl, rfl⟩
  have e0 : (okBrd b && okSt b s) = true := by first | (rwa [Bool.not_eq_true'] at g) | (rwa [Bool.not_eq_false'] at g) | (simpa using g)
  have h := StOk.of ho e0
  have hm := h.gb.wh.mul
  have hn := h.gb.n
  ((conv=>whnf);repeat((first|refine Ct ‹_› ?_|refine Cf ‹_› ?_|refine Ct rfl ?_|refine Cf rfl ?_|refine Bi rfl ?_|refine Bz rfl ?_|refine Lr ?_);conv=>whnf))
  refine Rw_i (rwI []) (rwI_nil _) ?_
  ((conv=>whnf);repeat((first|refine Ct ‹_› ?_|refine Cf ‹_› ?_|refine Ct rfl ?_|refine Cf rfl ?_|refine Bi rfl ?_|refine Bz rfl ?_|refine Lr ?_);conv=>whnf))
  refine WLoop_v2 ⟨[2, 3, 6, 16, 17], [2, 3], []⟩ (fun (t : Int) (out : List Int) => hdS 29 [(2, .v (.one (.box 2 0))), (3, .v (.one (.box 3 0))), (6, .v (.one (.own (vkey 6) out.length))), (16, .v (vI b.m.ter.length)), (17, .v (vI t))] [(2, b.cs), (3, s.cs)] [(vkey 6, rwI out)])
    (fun n t out => 0 ≤ t ∧ t + n = b.m.ter.length ∧ out = (List.range t.toNat).map fun i : Nat => ctl b s i) b.m.ter.length 0 [] rfl ⟨by omega, by omega, rfl⟩ ?_
  rintro n t out ⟨h1, h2, h3⟩
  have hol : out.length ≤ 100 := by rw [h3, List.length_map, List.length_range]; omega
  ((conv=>whnf);repeat((first|refine Ct ‹_› ?_|refine Cf ‹_› ?_|refine Ct rfl ?_|refine Cf rfl ?_|refine Bi rfl ?_|refine Bz rfl ?_|refine Lr ?_);conv=>whnf))
  refine Cnd_i (fun g => ?_) (fun g => ?_)
  · have ht := of_decide_eq_true g
    ((conv=>whnf);repeat((first|refine Ct ‹_› ?_|refine Cf ‹_› ?_|refine Ct rfl ?_|refine Cf rfl ?_|refine Bi rfl ?_|refine Bz rfl ?_|refine Lr ?_);conv=>whnf))
    (refine CallQ_some (F_controlOf b s h t h1 ht) ?_ ?_ ?_; rfl; rfl); ((conv=>whnf);repeat((first|refine Ct ‹_› ?_|refine Cf ‹_› ?_|refine Ct rfl ?_|refine Cf rfl ?_|refine Bi rfl ?_|refine Bz rfl ?_|refine Lr ?_);conv=>whnf))
    refine Rw_self ?_
    ((conv=>whnf);repeat((first|refine Ct ‹_› ?_|refine Cf ‹_› ?_|refine Ct rfl ?_|refine Cf rfl ?_|refine Bi rfl ?_|refine Bz rfl ?_|refine Lr ?_);conv=>whnf))
    refine Bnd_i ?_ ?_
    · show out.length + 1 < _
      omega
    ((conv=>whnf);repeat((first|refine Ct ‹_› ?_|refine Cf ‹_› ?_|refine Ct rfl ?_|refine Cf rfl ?_|refine Bi rfl ?_|refine Bz rfl ?_|refine Lr ?_);conv=>whnf))
    refine Rw_i (rwI (out ++ [ctl b s t])) (rwI_app _ _ _ rfl) ?_
    ((conv=>whnf);repeat((first|refine Ct ‹_› ?_|refine Cf ‹_› ?_|refine Ct rfl ?_|refine Cf rfl ?_|refine Bi rfl ?_|refine Bz rfl ?_|refine Lr ?_);conv=>whnf))
    refine ⟨n - 1, t + 1, out ++ [ctl b s t], ?_, by omega, by omega, by omega, ?_⟩
    · rw [wrapI (by omega)]; rfl
    · rw [range_succ' _ t h1, ← h3, show ((t.toNat : Nat) : Int) = t by omega]
  · have ht := of_decide_eq_false g
    ((conv=>whnf);repeat((first|refine Ct ‹_› ?_|refine Cf ‹_› ?_|refine Ct rfl ?_|refine Cf rfl ?_|refine Bi rfl ?_|refine Bz rfl ?_|refine Lr ?_);conv=>whnf))
    rw [cmpR, e0, h3, show t.toNat = b.m.ter.length by omega, show (List.range b.m.ter.length).map (fun i : Nat => ctl b s i) = cmL b s from rfl]
    exact ⟨rfl, rfl, rfl⟩

/-- the counts of the first n -/
def ccN (C : List Int) : Nat → List Int
  | 0 => List.replicate 4 0
  | n + 1 => (ccN C n).set (if C.getD n 0 = -1 then 3 else C.getD n 0).toNat ((ccN C n).getD (if C.getD n 0 = -1 then 3 else C.getD n 0).toNat 0 + 1)

theorem ccN_len (C : List Int) (n : Nat) : (ccN C n).length = 4 := by
  induction n with
  | zero => rfl
  | succ n ih => unfold ccN; rw [List.length_set]; exact ih

theorem ccN_b (C : List Int) (n j : Nat) : 0 ≤ (ccN C n).getD j 0 ∧ (ccN C n).getD j 0 ≤ n := by
  induction n generalizing j with
  | zero =>
    unfold ccN
    rw [List.getD_eq_getElem?_getD, List.getElem?_replicate]
    split <;> simp
  | succ n ih =>
    unfold ccN
    generalize (if C.getD n 0 = -1 then 3 else C.getD n 0).toNat = q
    by_cases hk : q < (ccN C n).length
    · rw [getD_set _ _ _ _ hk]
      have h1 := ih j
      have h2 := ih q
      split <;> omega
    · rw [List.set_eq_of_length_le (Nat.le_of_not_lt hk)]
      have h1 := ih j
      omega

theorem ccN_succ (C : List Int) {t : Int} (h0 : 0 ≤ t) : ccN C (t + 1).toNat = (ccN C t.toNat).set (if C.getD t.toNat 0 = -1 then 3 else C.getD t.toNat 0).toNat ((ccN C t.toNat).getD (if C.getD t.toNat 0 = -1 then 3 else C.getD t.toNat 0).toNat 0 + 1) := by
  rw [show (t + 1).toNat = t.toNat + 1 by omega, ccN]

noncomputable def cctR (b : Brd) (s : Stt) : List Int × Bool := if (okBrd b && okSt b s) = true then (ccN (cmL b s) b.m.ter.length, true) else ([], false)

theorem cctR_len (b : Brd) (s : Stt) : (cctR b s).1.length ≤ 1048576 := by
  unfold cctR
  split
  · have := ccN_len (cmL b s) b.m.ter.length
    show (ccN _ _).length ≤ _
    omega
  · exact Nat.zero_le _

theorem F_CountControlled (b : Brd) (ho : b.Ok) (s : Stt) (hs : s.Ok) :
    Fun E0 29 [.agg b.cs, .agg s.cs] [] (.tup [.one (.own 0 (cctR b s).1.length), vB (cctR b s).2]) [(0, rwI (cctR b s).1)] [] := by
  refine Fun_of_xc k29 rfl rfl (nrC (rwI_no _) nrN) ?_
  ((conv=>whnf);repeat((first|refine Ct ‹_› ?_|refine Cf ‹_› ?_|refine Ct rfl ?_|refine Cf rfl ?_|refine Bi rfl ?_|refine Bz rfl ?_|refine Lr ?_);conv=>whnf))
  refine Rw_i (rwI []) (rwI_nil _) ?_
  ((conv=>whnf);repeat((first|refine Ct ‹_› ?_|refine Cf ‹_› ?_|refine Ct rfl ?_|refine Cf rfl ?_|refine Bi rfl ?_|refine Bz rfl ?_|refine Lr ?_);conv=>whnf))
  (refine CallQ_some (F_sGood b ho s hs) ?_ ?_ ?_; rfl; rfl); ((conv=>whnf);repeat((first|refine Ct ‹_› ?_|refine Cf ‹_› ?_|refine Ct rfl ?_|refine Cf rfl ?_|refine Bi rfl ?_|refine Bz rfl ?_|refine Lr ?_);conv=>whnf))
  refine Cnd_i (fun g => ?_) (fun g => ?_)
  · have e0 : (okBrd b && okSt b s) = false := by first | (rwa [Bool.not_eq_true'] at g) | (rwa [Bool.not_eq_false'] at g) | (simpa using g)
    ((conv=>whnf);repeat((first|refine Ct ‹_› ?_|refine Cf ‹_› ?_|refine Ct rfl ?_|refine Cf rfl ?_|refine Bi rfl ?_|refine Bz rfl ?_|refine Lr ?_);conv=>whnf))
    refine Rw_i (rwI []) (rwI_nil _) ?_
    ((conv=>whnf);repeat((first|refine Ct ‹_› ?_|refine Cf ‹_› ?_|refine Ct rfl ?_|refine Cf rfl ?_|refine Bi rfl ?_|refine Bz rfl ?_|refine Lr ?_);conv=>whnf))
    rw [cctR, e0]
    exact ⟨rfl, rfl, rfl⟩
  have e0 : (okBrd b && okSt b s) = true := by first | (rwa [Bool.not_eq_true'] at g) | (rwa [Bool.not_eq_false'] at g) | (simpa using g)
  have h := StOk.of ho e0
  have hm := h.gb.wh.mul
  have hn := h.gb.n
  ((conv=>whnf);repeat((first|refine Ct ‹_› ?_|refine Cf ‹_› ?_|refine Ct rfl ?_|refine Cf rfl ?_|refine Bi rfl ?_|refine Bz rfl ?_|refine Lr ?_);conv=>whnf))
  refine Bnd_i (by omega) ?_
  ((conv=>whnf);repeat((first|refine Ct ‹_› ?_|refine Cf ‹_› ?_|refine Ct rfl ?_|refine Cf rfl ?_|refine Bi rfl ?_|refine Bz rfl ?_|refine Lr ?_);conv=>whnf))
  refine Rw_i (rwIn 4 (List.replicate 4 0)) (rwIn_zero 4) ?_
  ((conv=>whnf);repeat((first|refine Ct ‹_› ?_|refine Cf ‹_› ?_|refine Ct rfl ?_|refine Cf rfl ?_|refine Bi rfl ?_|refine Bz rfl ?_|refine Lr ?_);conv=>whnf))
  (refine CallQ_some (F_zMap b s h) ?_ ?_ ?_; rfl; rfl); ((conv=>whnf);repeat((first|refine Ct ‹_› ?_|refine Cf ‹_› ?_|refine Ct rfl ?_|refine Cf rfl ?_|refine Bi rfl ?_|refine Bz rfl ?_|refine Lr ?_);conv=>whnf))
  have hcl := cmL_len b s
  have hcb : ∀ x ∈ cmL b s, -1 ≤ x ∧ x ≤ 2 := by
    intro x hx
    obtain ⟨i, _, rfl⟩ := List.mem_map.1 hx
    exact ctl_b h _
  have hR : cctR b s = (ccN (cmL b s) b.m.ter.length, true) := by rw [cctR, if_pos e0]
  rw [hR]
  clear hR
  generalize cmL b s = C at hcl hcb ⊢
  refine WLoop_v2 ⟨[6, 16, 17, 18], [], []⟩ (fun (t : Int) (out : List Int) => hdS 38 [(6, .v (.one (.own (vkey 6) 4))), (16, .v (.one (.own (vkey 16) C.length))), (17, .v (vI C.length)), (18, .v (vI t))] [] [(vkey 6, rwIn 4 out), (vkey 16, rwI C)])
    (fun n t out => 0 ≤ t ∧ t + n = C.length ∧ out = ccN C t.toNat) C.length 0 (List.replicate 4 0) rfl ⟨by omega, by omega, rfl⟩ ?_
  rintro n t out ⟨h1, h2, h3⟩
  have hol : out.length = 4 := by rw [h3, ccN_len]
  have hs := ccN_succ C h1
  have hb := fun j => ccN_b C t.toNat j
  rw [← h3] at hs hb
  ((conv=>whnf);repeat((first|refine Ct ‹_› ?_|refine Cf ‹_› ?_|refine Ct rfl ?_|refine Cf rfl ?_|refine Bi rfl ?_|refine Bz rfl ?_|refine Lr ?_);conv=>whnf))
  refine Cnd_i (fun g => ?_) (fun g => ?_)
  · have ht := of_decide_eq_true g
    have hx := hcb _ (getD_mem h1 ht)
    ((conv=>whnf);repeat((first|refine Ct ‹_› ?_|refine Cf ‹_› ?_|refine Ct rfl ?_|refine Cf rfl ?_|refine Bi rfl ?_|refine Bz rfl ?_|refine Lr ?_);conv=>whnf))
    refine Bnd_i (⟨h1, ht⟩) ?_; ((conv=>whnf);repeat((first|refine Ct ‹_› ?_|refine Cf ‹_› ?_|refine Ct rfl ?_|refine Cf rfl ?_|refine Bi rfl ?_|refine Bz rfl ?_|refine Lr ?_);conv=>whnf))
    refine Cnd_i (fun g2 => ?_) (fun g2 => ?_)
    · have d2 : C.getD t.toNat 0 = -1 := by simpa using g2
      have hb3 := hb 3
      rw [if_pos d2] at hs
      ((conv=>whnf);repeat((first|refine Ct ‹_› ?_|refine Cf ‹_› ?_|refine Ct rfl ?_|refine Cf rfl ?_|refine Bi rfl ?_|refine Bz rfl ?_|refine Lr ?_);conv=>whnf))
      refine Bnd_i (⟨by omega, by omega⟩) ?_; ((conv=>whnf);repeat((first|refine Ct ‹_› ?_|refine Cf ‹_› ?_|refine Ct rfl ?_|refine Cf rfl ?_|refine Bi rfl ?_|refine Bz rfl ?_|refine Lr ?_);conv=>whnf))
      refine Bnd_i (⟨by omega, by omega⟩) ?_; ((conv=>whnf);repeat((first|refine Ct ‹_› ?_|refine Cf ‹_› ?_|refine Ct rfl ?_|refine Cf rfl ?_|refine Bi rfl ?_|refine Bz rfl ?_|refine Lr ?_);conv=>whnf))
      refine Rw_i (rwIn 4 (out.set 3 (out.getD 3 0 + 1))) (by rw [show IntKind.i64.wrap (out.getD (Int.toNat 3) 0 + 1) = out.getD 3 0 + 1 from wrapI (n := out.getD 3 0 + 1) (by omega)]; exact rwIn_set _ _ _ _ (by omega)) ?_
      ((conv=>whnf);repeat((first|refine Ct ‹_› ?_|refine Cf ‹_› ?_|refine Ct rfl ?_|refine Cf rfl ?_|refine Bi rfl ?_|refine Bz rfl ?_|refine Lr ?_);conv=>whnf))
      refine ⟨n - 1, t + 1, out.set 3 (out.getD 3 0 + 1), ?_, by omega, by omega, by omega, hs.symm⟩
      rw [wrapI (n := t + 1) (by omega)]; rfl
    · have d2 : ¬ C.getD t.toNat 0 = -1 := by simpa using g2
      have hb3 := hb (C.getD t.toNat 0).toNat
      rw [if_neg d2] at hs
      ((conv=>whnf);repeat((first|refine Ct ‹_› ?_|refine Cf ‹_› ?_|refine Ct rfl ?_|refine Cf rfl ?_|refine Bi rfl ?_|refine Bz rfl ?_|refine Lr ?_);conv=>whnf))
      refine Bnd_i (⟨by omega, by omega⟩) ?_; ((conv=>whnf);repeat((first|refine Ct ‹_› ?_|refine Cf ‹_› ?_|refine Ct rfl ?_|refine Cf rfl ?_|refine Bi rfl ?_|refine Bz rfl ?_|refine Lr ?_);conv=>whnf))
      refine Bnd_i (⟨by omega, by omega⟩) ?_; ((conv=>whnf);repeat((first|refine Ct ‹_› ?_|refine Cf ‹_› ?_|refine Ct rfl ?_|refine Cf rfl ?_|refine Bi rfl ?_|refine Bz rfl ?_|refine Lr ?_);conv=>whnf))
      refine Rw_i (rwIn 4 (out.set (C.getD t.toNat 0).toNat (out.getD (C.getD t.toNat 0).toNat 0 + 1))) (by rw [wrapI (by omega)]; exact rwIn_set _ _ _ _ (by omega)) ?_
      ((conv=>whnf);repeat((first|refine Ct ‹_› ?_|refine Cf ‹_› ?_|refine Ct rfl ?_|refine Cf rfl ?_|refine Bi rfl ?_|refine Bz rfl ?_|refine Lr ?_);conv=>whnf))
      refine ⟨n - 1, t + 1, out.set (C.getD t.toNat 0).toNat (out.getD (C.getD t.toNat 0).toNat 0 + 1), ?_, by omega, by omega, by omega, hs.symm⟩
      rw [wrapI (n := t + 1) (by omega)]; rfl
  · have ht := of_decide_eq_false g
    ((conv=>whnf);repeat((first|refine Ct ‹_› ?_|refine Cf ‹_› ?_|refine Ct rfl ?_|refine Cf rfl ?_|refine Bi rfl ?_|refine Bz rfl ?_|refine Lr ?_);conv=>whnf))
    have e4 : ccN C b.m.ter.length = out := by rw [h3, show t.toNat = b.m.ter.length by omega]
    rw [e4, rwIn_eq hol, hol]
    exact ⟨rfl, rfl, rfl⟩

theorem F_CountControlledI (b : Brd) (ho : b.Ok) (s : Stt) (hs : s.Ok) :
    Fun E0 30 [.agg b.cs, .agg s.cs] [] (.tup [.one (.own 0 (cctR b s).1.length), vB (cctR b s).2]) [(0, rwI (cctR b s).1)] [] := by
  refine Fun_of_xc k30 rfl rfl (nrC (rwI_no _) nrN) ?_
  ((conv=>whnf);repeat((first|refine Ct ‹_› ?_|refine Cf ‹_› ?_|refine Ct rfl ?_|refine Cf rfl ?_|refine Bi rfl ?_|refine Bz rfl ?_|refine Lr ?_);conv=>whnf))
  refine Rw_i (rwI []) (rwI_nil _) ?_
  ((conv=>whnf);repeat((first|refine Ct ‹_› ?_|refine Cf ‹_› ?_|refine Ct rfl ?_|refine Cf rfl ?_|refine Bi rfl ?_|refine Bz rfl ?_|refine Lr ?_);conv=>whnf))
  (refine CallQ_some (F_ControlMapI b ho s hs) ?_ ?_ ?_; rfl; rfl); ((conv=>whnf);repeat((first|refine Ct ‹_› ?_|refine Cf ‹_› ?_|refine Ct rfl ?_|refine Cf rfl ?_|refine Bi rfl ?_|refine Bz rfl ?_|refine Lr ?_);conv=>whnf))
  cases e0 : (okBrd b && okSt b s) with
  | false =>
    have hR : cmpR b s = ([], false) := by rw [cmpR, e0]; rfl
    rw [hR]
    ((conv=>whnf);repeat((first|refine Ct ‹_› ?_|refine Cf ‹_› ?_|refine Ct rfl ?_|refine Cf rfl ?_|refine Bi rfl ?_|refine Bz rfl ?_|refine Lr ?_);conv=>whnf))
    refine Rw_i (rwI []) (rwI_nil _) ?_
    ((conv=>whnf);repeat((first|refine Ct ‹_› ?_|refine Cf ‹_› ?_|refine Ct rfl ?_|refine Cf rfl ?_|refine Bi rfl ?_|refine Bz rfl ?_|refine Lr ?_);conv=>whnf))
    rw [cctR, e0]
    exact ⟨rfl, rfl, rfl⟩
  | true =>
  have hR : cmpR b s = (cmL b s, true) := by rw [cmpR, e0]; rfl
  rw [hR]
  have h := StOk.of ho e0
  have hm := h.gb.wh.mul
  have hn := h.gb.n
  clear hR
  ((conv=>whnf);repeat((first|refine Ct ‹_› ?_|refine Cf ‹_› ?_|refine Ct rfl ?_|refine Cf rfl ?_|refine Bi rfl ?_|refine Bz rfl ?_|refine Lr ?_);conv=>whnf))
  refine Bnd_i (by omega) ?_
  ((conv=>whnf);repeat((first|refine Ct ‹_› ?_|refine Cf ‹_› ?_|refine Ct rfl ?_|refine Cf rfl ?_|refine Bi rfl ?_|refine Bz rfl ?_|refine Lr ?_);conv=>whnf))
  refine Rw_i (rwIn 4 (List.replicate 4 0)) (rwIn_zero 4) ?_
  ((conv=>whnf);repeat((first|refine Ct ‹_› ?_|refine Cf ‹_› ?_|refine Ct rfl ?_|refine Cf rfl ?_|refine Bi rfl ?_|refine Bz rfl ?_|refine Lr ?_);conv=>whnf))
  have hcl := cmL_len b s
  have hcb : ∀ x ∈ cmL b s, -1 ≤ x ∧ x ≤ 2 := by
    intro x hx
    obtain ⟨i, _, rfl⟩ := List.mem_map.1 hx
    exact ctl_b h _
  have hR : cctR b s = (ccN (cmL b s) b.m.ter.length, true) := by rw [cctR, if_pos e0]
  rw [hR]
  clear hR
  generalize cmL b s = C at hcl hcb ⊢
  refine WLoop_v2 ⟨[8, 20, 21, 22], [], []⟩ (fun (t : Int) (out : List Int) => hdS 41 [(8, .v (.one (.own (vkey 8) 4))), (20, .v (.one (.own (vkey 20) C.length))), (21, .v (vI C.length)), (22, .v (vI t))] [] [(vkey 8, rwIn 4 out), (vkey 20, rwI C)])
    (fun n t out => 0 ≤ t ∧ t + n = C.length ∧ out = ccN C t.toNat) C.length 0 (List.replicate 4 0) rfl ⟨by omega, by omega, rfl⟩ ?_
  rintro n t out ⟨h1, h2, h3⟩
  have hol : out.length = 4 := by rw [h3, ccN_len]
  have hs := ccN_succ C h1
  have hb := fun j => ccN_b C t.toNat j
  rw [← h3] at hs hb
  ((conv=>whnf);repeat((first|refine Ct ‹_› ?_|refine Cf ‹_› ?_|refine Ct rfl ?_|refine Cf rfl ?_|refine Bi rfl ?_|refine Bz rfl ?_|refine Lr ?_);conv=>whnf))
  refine Cnd_i (fun g => ?_) (fun g => ?_)
  · have ht := of_decide_eq_true g
    have hx := hcb _ (getD_mem h1 ht)
    ((conv=>whnf);repeat((first|refine Ct ‹_› ?_|refine Cf ‹_› ?_|refine Ct rfl ?_|refine Cf rfl ?_|refine Bi rfl ?_|refine Bz rfl ?_|refine Lr ?_);conv=>whnf))
    refine Bnd_i (⟨h1, ht⟩) ?_; ((conv=>whnf);repeat((first|refine Ct ‹_› ?_|refine Cf ‹_› ?_|refine Ct rfl ?_|refine Cf rfl ?_|refine Bi rfl ?_|refine Bz rfl ?_|refine Lr ?_);conv=>whnf))
    refine Cnd_i (fun g2 => ?_) (fun g2 => ?_)
    · have d2 : C.getD t.toNat 0 = -1 := by simpa using g2
      have hb3 := hb 3
      rw [if_pos d2] at hs
      ((conv=>whnf);repeat((first|refine Ct ‹_› ?_|refine Cf ‹_› ?_|refine Ct rfl ?_|refine Cf rfl ?_|refine Bi rfl ?_|refine Bz rfl ?_|refine Lr ?_);conv=>whnf))
      refine Bnd_i (⟨by omega, by omega⟩) ?_; ((conv=>whnf);repeat((first|refine Ct ‹_› ?_|refine Cf ‹_› ?_|refine Ct rfl ?_|refine Cf rfl ?_|refine Bi rfl ?_|refine Bz rfl ?_|refine Lr ?_);conv=>whnf))
      refine Bnd_i (⟨by omega, by omega⟩) ?_; ((conv=>whnf);repeat((first|refine Ct ‹_› ?_|refine Cf ‹_› ?_|refine Ct rfl ?_|refine Cf rfl ?_|refine Bi rfl ?_|refine Bz rfl ?_|refine Lr ?_);conv=>whnf))
      refine Rw_i (rwIn 4 (out.set 3 (out.getD 3 0 + 1))) (by rw [show IntKind.i64.wrap (out.getD (Int.toNat 3) 0 + 1) = out.getD 3 0 + 1 from wrapI (n := out.getD 3 0 + 1) (by omega)]; exact rwIn_set _ _ _ _ (by omega)) ?_
      ((conv=>whnf);repeat((first|refine Ct ‹_› ?_|refine Cf ‹_› ?_|refine Ct rfl ?_|refine Cf rfl ?_|refine Bi rfl ?_|refine Bz rfl ?_|refine Lr ?_);conv=>whnf))
      refine ⟨n - 1, t + 1, out.set 3 (out.getD 3 0 + 1), ?_, by omega, by omega, by omega, hs.symm⟩
      rw [wrapI (n := t + 1) (by omega)]; rfl
    · have d2 : ¬ C.getD t.toNat 0 = -1 := by simpa using g2
      have hb3 := hb (C.getD t.toNat 0).toNat
      rw [if_neg d2] at hs
      ((conv=>whnf);repeat((first|refine Ct ‹_› ?_|refine Cf ‹_› ?_|refine Ct rfl ?_|refine Cf rfl ?_|refine Bi rfl ?_|refine Bz rfl ?_|refine Lr ?_);conv=>whnf))
      refine Bnd_i (⟨by omega, by omega⟩) ?_; ((conv=>whnf);repeat((first|refine Ct ‹_› ?_|refine Cf ‹_› ?_|refine Ct rfl ?_|refine Cf rfl ?_|refine Bi rfl ?_|refine Bz rfl ?_|refine Lr ?_);conv=>whnf))
      refine Bnd_i (⟨by omega, by omega⟩) ?_; ((conv=>whnf);repeat((first|refine Ct ‹_› ?_|refine Cf ‹_› ?_|refine Ct rfl ?_|refine Cf rfl ?_|refine Bi rfl ?_|refine Bz rfl ?_|refine Lr ?_);conv=>whnf))
      refine Rw_i (rwIn 4 (out.set (C.getD t.toNat 0).toNat (out.getD (C.getD t.toNat 0).toNat 0 + 1))) (by rw [wrapI (by omega)]; exact rwIn_set _ _ _ _ (by omega)) ?_
      ((conv=>whnf);repeat((first|refine Ct ‹_› ?_|refine Cf ‹_› ?_|refine Ct rfl ?_|refine Cf rfl ?_|refine Bi rfl ?_|refine Bz rfl ?_|refine Lr ?_);conv=>whnf))
      refine ⟨n - 1, t + 1, out.set (C.getD t.toNat 0).toNat (out.getD (C.getD t.toNat 0).toNat 0 + 1), ?_, by omega, by omega, by omega, hs.symm⟩
      rw [wrapI (n := t + 1) (by omega)]; rfl
  · have ht := of_decide_eq_false g
    ((conv=>whnf);repeat((first|refine Ct ‹_› ?_|refine Cf ‹_› ?_|refine Ct rfl ?_|refine Cf rfl ?_|refine Bi rfl ?_|refine Bz rfl ?_|refine Lr ?_);conv=>whnf))
    have e4 : ccN C b.m.ter.length = out := by rw [h3, show t.toNat = b.m.ter.length by omega]
    rw [e4, rwIn_eq hol, hol]
    exact ⟨rfl, rfl, rfl⟩

theorem F_FnExactCountControlled (x0 : Brd) (x1 : Stt) (o0 : x0.Ok) (o1 : x1.Ok) :
    Fun E0 7 [.agg x0.cs, .agg x1.cs] [] (.v (vB true)) [] [] := by
  have hS := F_CountControlled x0 o0 x1 o1
  have hI := F_CountControlledI x0 o0 x1 o1
  have hr0 : (cctR x0 x1).1.length ≤ 1048576 := cctR_len x0 x1
  revert hS hI hr0
  generalize cctR x0 x1 = RR
  obtain ⟨r0, r1⟩ := RR
  intro hS hI hr0
  dsimp only at hS
  dsimp only at hI
  dsimp only at hr0
  refine Fun_of_xc k7 rfl rfl (fun k q h => by cases h) ?_
  ((conv=>whnf);repeat((first|refine Ct ‹_› ?_|refine Cf ‹_› ?_|refine Ct rfl ?_|refine Cf rfl ?_|refine Bi rfl ?_|refine Bz rfl ?_|refine Lr ?_);conv=>whnf))
  (refine CallQ_some (F_szBoard x0 o0 1048576 (by omega) (by omega)) ?_ ?_ ?_; rfl; rfl); ((conv=>whnf);repeat((first|refine Ct ‹_› ?_|refine Cf ‹_› ?_|refine Ct rfl ?_|refine Cf rfl ?_|refine Bi rfl ?_|refine Bz rfl ?_|refine Lr ?_);conv=>whnf))
  refine Cnd_i (fun g => ?_) (fun g => ?_)
  · ((conv=>whnf);repeat((first|refine Ct ‹_› ?_|refine Cf ‹_› ?_|refine Ct rfl ?_|refine Cf rfl ?_|refine Bi rfl ?_|refine Bz rfl ?_|refine Lr ?_);conv=>whnf))
    exact ⟨rfl, rfl, rfl⟩
  have sm0 := szB_sm (b := x0) (x := 1048576) (by omega) (by omega) (of_decide_eq_false g)
  have s0 := sm0.1
  have sb0 := sm0.2
  have sc0 := of_decide_eq_false g
  ((conv=>whnf);repeat((first|refine Ct ‹_› ?_|refine Cf ‹_› ?_|refine Ct rfl ?_|refine Cf rfl ?_|refine Bi rfl ?_|refine Bz rfl ?_|refine Lr ?_);conv=>whnf))
  (refine CallQ_some (F_szState x1 o1 (szB x0 1048576) (by omega) (by omega)) ?_ ?_ ?_; rfl; rfl); ((conv=>whnf);repeat((first|refine Ct ‹_› ?_|refine Cf ‹_› ?_|refine Ct rfl ?_|refine Cf rfl ?_|refine Bi rfl ?_|refine Bz rfl ?_|refine Lr ?_);conv=>whnf))
  refine Cnd_i (fun g => ?_) (fun g => ?_)
  · ((conv=>whnf);repeat((first|refine Ct ‹_› ?_|refine Cf ‹_› ?_|refine Ct rfl ?_|refine Cf rfl ?_|refine Bi rfl ?_|refine Bz rfl ?_|refine Lr ?_);conv=>whnf))
    exact ⟨rfl, rfl, rfl⟩
  have sm1 := szSt_sm (s := x1) (x := szB x0 1048576) (by omega) (by omega) (of_decide_eq_false g)
  have s1 := sm1.1
  have sb1 := sm1.2
  have sc1 := of_decide_eq_false g
  ((conv=>whnf);repeat((first|refine Ct ‹_› ?_|refine Cf ‹_› ?_|refine Ct rfl ?_|refine Cf rfl ?_|refine Bi rfl ?_|refine Bz rfl ?_|refine Lr ?_);conv=>whnf))
  (refine CallQ_some (F_toBoard x0 s0) ?_ ?_ ?_; rfl; rfl); ((conv=>whnf);repeat((first|refine Ct ‹_› ?_|refine Cf ‹_› ?_|refine Ct rfl ?_|refine Cf rfl ?_|refine Bi rfl ?_|refine Bz rfl ?_|refine Lr ?_);conv=>whnf))
  (refine CallQ_some (F_toState x1 s1) ?_ ?_ ?_; rfl; rfl); ((conv=>whnf);repeat((first|refine Ct ‹_› ?_|refine Cf ‹_› ?_|refine Ct rfl ?_|refine Cf rfl ?_|refine Bi rfl ?_|refine Bz rfl ?_|refine Lr ?_);conv=>whnf))
  refine CallQ_eq (snapBS x0 x1 _) ?_
  (refine CallQ_some (hS) ?_ ?_ ?_; rfl; rfl); ((conv=>whnf);repeat((first|refine Ct ‹_› ?_|refine Cf ‹_› ?_|refine Ct rfl ?_|refine Cf rfl ?_|refine Bi rfl ?_|refine Bz rfl ?_|refine Lr ?_);conv=>whnf))
  (refine CallQ_some (F_toBoard x0 s0) ?_ ?_ ?_; rfl; rfl); ((conv=>whnf);repeat((first|refine Ct ‹_› ?_|refine Cf ‹_› ?_|refine Ct rfl ?_|refine Cf rfl ?_|refine Bi rfl ?_|refine Bz rfl ?_|refine Lr ?_);conv=>whnf))
  (refine CallQ_some (F_toState x1 s1) ?_ ?_ ?_; rfl; rfl); ((conv=>whnf);repeat((first|refine Ct ‹_› ?_|refine Cf ‹_› ?_|refine Ct rfl ?_|refine Cf rfl ?_|refine Bi rfl ?_|refine Bz rfl ?_|refine Lr ?_);conv=>whnf))
  refine CallQ_eq (snapBS x0 x1 _) ?_
  (refine CallQ_some (hI) ?_ ?_ ?_; rfl; rfl); ((conv=>whnf);repeat((first|refine Ct ‹_› ?_|refine Cf ‹_› ?_|refine Ct rfl ?_|refine Cf rfl ?_|refine Bi rfl ?_|refine Bz rfl ?_|refine Lr ?_);conv=>whnf))
  (refine CallQ_some (F_eqIntS r0 hr0) ?_ ?_ ?_; rfl; rfl); ((conv=>whnf);repeat((first|refine Ct ‹_› ?_|refine Cf ‹_› ?_|refine Ct rfl ?_|refine Cf rfl ?_|refine Bi rfl ?_|refine Bz rfl ?_|refine Lr ?_);conv=>whnf))
  repeat (refine Cnd_f (by simp) ?_; ((conv=>whnf);repeat((first|refine Ct ‹_› ?_|refine Cf ‹_› ?_|refine Ct rfl ?_|refine Cf rfl ?_|refine Bi rfl ?_|refine Bz rfl ?_|refine Lr ?_);conv=>whnf)))
  repeat (refine Cnd_f (by simp) ?_; ((conv=>whnf);repeat((first|refine Ct ‹_› ?_|refine Cf ‹_› ?_|refine Ct rfl ?_|refine Cf rfl ?_|refine Bi rfl ?_|refine Bz rfl ?_|refine Lr ?_);conv=>whnf)))
  (refine CallQ_some (F_toBoard x0 s0) ?_ ?_ ?_; rfl; rfl); ((conv=>whnf);repeat((first|refine Ct ‹_› ?_|refine Cf ‹_› ?_|refine Ct rfl ?_|refine Cf rfl ?_|refine Bi rfl ?_|refine Bz rfl ?_|refine Lr ?_);conv=>whnf))
  refine CallQ_eq (snapBB x0) ?_
  (refine CallQ_some (F_eqBoard x0 s0) ?_ ?_ ?_; rfl; rfl); ((conv=>whnf);repeat((first|refine Ct ‹_› ?_|refine Cf ‹_› ?_|refine Ct rfl ?_|refine Cf rfl ?_|refine Bi rfl ?_|refine Bz rfl ?_|refine Lr ?_);conv=>whnf))
  (refine CallQ_some (F_toState x1 s1) ?_ ?_ ?_; rfl; rfl); ((conv=>whnf);repeat((first|refine Ct ‹_› ?_|refine Cf ‹_› ?_|refine Ct rfl ?_|refine Cf rfl ?_|refine Bi rfl ?_|refine Bz rfl ?_|refine Lr ?_);conv=>whnf))
  refine CallQ_eq (snapSS x1) ?_
  (refine CallQ_some (F_eqState x1 s1) ?_ ?_ ?_; rfl; rfl); ((conv=>whnf);repeat((first|refine Ct ‹_› ?_|refine Cf ‹_› ?_|refine Ct rfl ?_|refine Cf rfl ?_|refine Bi rfl ?_|refine Bz rfl ?_|refine Lr ?_);conv=>whnf))
  refine CallR_e (F_markBoard x0 s0 1 (by omega) (by omega)) ?_
  rintro _ _ o' ⟨k0, ka0, kb0, rfl, rfl, hs⟩
  obtain ⟨⟨_, q0⟩, ⟨_, q1⟩, ⟨_, q2⟩, ⟨_, q3⟩, ⟨_, q4⟩, rfl, ⟨⟩, ⟨⟩, ⟨⟩, ⟨⟩, ⟨⟩, t0, t1, t2, t3, t4⟩ := shape5 hs
  refine ⟨⟨rfl, t0.1, t0.2.1, t0.2.2, rfl, t1.1, t1.2.1, t1.2.2, rfl, t2.1, t2.2.1, t2.2.2, rfl, t3.1, t3.2.1, t3.2.2, rfl, t4.1, t4.2.1, t4.2.2, trivial⟩, rfl, rfl, ?_⟩
  conv => whnf
  refine ⟨rfl, ?_⟩
  ((conv=>whnf);repeat((first|refine Ct ‹_› ?_|refine Cf ‹_› ?_|refine Ct rfl ?_|refine Cf rfl ?_|refine Bi rfl ?_|refine Bz rfl ?_|refine Lr ?_);conv=>whnf))
  (refine CallR_some (F_markState x1 k0 s1 (by omega) (by omega)) (by repeat (first | exact trivial | refine ⟨rfl, rfl, rfl, rfl, ?_⟩)) ?_ ?_ ?_ ?_; rfl; rfl; rfl); ((conv=>whnf);repeat((first|refine Ct ‹_› ?_|refine Cf ‹_› ?_|refine Ct rfl ?_|refine Cf rfl ?_|refine Bi rfl ?_|refine Bz rfl ?_|refine Lr ?_);conv=>whnf))
  have hkn : decide ((k0 + 4 * x1.un.length : Int) < 0) = false := decide_eq_false (by omega)
  ((conv=>whnf);repeat((first|refine Ct ‹_› ?_|refine Cf ‹_› ?_|refine Ct rfl ?_|refine Cf rfl ?_|refine Bi rfl ?_|refine Bz rfl ?_|refine Lr ?_);conv=>whnf))
  (refine CallQ_some (F_eqIntS r0 hr0) ?_ ?_ ?_; rfl; rfl); ((conv=>whnf);repeat((first|refine Ct ‹_› ?_|refine Cf ‹_› ?_|refine Ct rfl ?_|refine Cf rfl ?_|refine Bi rfl ?_|refine Bz rfl ?_|refine Lr ?_);conv=>whnf))
  repeat (refine Cnd_f (by simp) ?_; ((conv=>whnf);repeat((first|refine Ct ‹_› ?_|refine Cf ‹_› ?_|refine Ct rfl ?_|refine Cf rfl ?_|refine Bi rfl ?_|refine Bz rfl ?_|refine Lr ?_);conv=>whnf)))
  repeat (refine Cnd_f (by simp) ?_; ((conv=>whnf);repeat((first|refine Ct ‹_› ?_|refine Cf ‹_› ?_|refine Ct rfl ?_|refine Cf rfl ?_|refine Bi rfl ?_|refine Bz rfl ?_|refine Lr ?_);conv=>whnf)))
  (refine CallR_some (F_markIntS r0 1 hr0 (by omega) (by omega)) (by repeat (first | exact trivial | refine ⟨rfl, rfl, rfl, rfl, ?_⟩)) ?_ ?_ ?_ ?_; rfl; rfl; rfl); ((conv=>whnf);repeat((first|refine Ct ‹_› ?_|refine Cf ‹_› ?_|refine Ct rfl ?_|refine Cf rfl ?_|refine Bi rfl ?_|refine Bz rfl ?_|refine Lr ?_);conv=>whnf))
  (refine CallQ_some (F_heldIntS 1 r0.length hr0 (by omega) (by omega)) ?_ ?_ ?_; rfl; rfl); ((conv=>whnf);repeat((first|refine Ct ‹_› ?_|refine Cf ‹_› ?_|refine Ct rfl ?_|refine Cf rfl ?_|refine Bi rfl ?_|refine Bz rfl ?_|refine Lr ?_);conv=>whnf))
  have hq0 : decide (1 + (r0.length : Int) < 0) = false := decide_eq_false (by omega)
  ((conv=>whnf);repeat((first|refine Ct ‹_› ?_|refine Cf ‹_› ?_|refine Ct rfl ?_|refine Cf rfl ?_|refine Bi rfl ?_|refine Bz rfl ?_|refine Lr ?_);conv=>whnf))
  repeat (refine Cnd_f (by simp) ?_; ((conv=>whnf);repeat((first|refine Ct ‹_› ?_|refine Cf ‹_› ?_|refine Ct rfl ?_|refine Cf rfl ?_|refine Bi rfl ?_|refine Bz rfl ?_|refine Lr ?_);conv=>whnf)))
  (refine CallQ_some (F_toBoard x0 s0) ?_ ?_ ?_; rfl; rfl); ((conv=>whnf);repeat((first|refine Ct ‹_› ?_|refine Cf ‹_› ?_|refine Ct rfl ?_|refine Cf rfl ?_|refine Bi rfl ?_|refine Bz rfl ?_|refine Lr ?_);conv=>whnf))
  (refine CallQ_some (F_toState x1 s1) ?_ ?_ ?_; rfl; rfl); ((conv=>whnf);repeat((first|refine Ct ‹_› ?_|refine Cf ‹_› ?_|refine Ct rfl ?_|refine Cf rfl ?_|refine Bi rfl ?_|refine Bz rfl ?_|refine Lr ?_);conv=>whnf))
  refine CallQ_eq (snapBS x0 x1 _) ?_
  (refine CallQ_some (hI) ?_ ?_ ?_; rfl; rfl); ((conv=>whnf);repeat((first|refine Ct ‹_› ?_|refine Cf ‹_› ?_|refine Ct rfl ?_|refine Cf rfl ?_|refine Bi rfl ?_|refine Bz rfl ?_|refine Lr ?_);conv=>whnf))
  (refine CallQ_some (F_eqIntS r0 hr0) ?_ ?_ ?_; rfl; rfl); ((conv=>whnf);repeat((first|refine Ct ‹_› ?_|refine Cf ‹_› ?_|refine Ct rfl ?_|refine Cf rfl ?_|refine Bi rfl ?_|refine Bz rfl ?_|refine Lr ?_);conv=>whnf))
  repeat (refine Cnd_f (by simp) ?_; ((conv=>whnf);repeat((first|refine Ct ‹_› ?_|refine Cf ‹_› ?_|refine Ct rfl ?_|refine Cf rfl ?_|refine Bi rfl ?_|refine Bz rfl ?_|refine Lr ?_);conv=>whnf)))
  repeat (refine Cnd_f (by simp) ?_; ((conv=>whnf);repeat((first|refine Ct ‹_› ?_|refine Cf ‹_› ?_|refine Ct rfl ?_|refine Cf rfl ?_|refine Bi rfl ?_|refine Bz rfl ?_|refine Lr ?_);conv=>whnf)))
  (refine CallQ_some (F_heldIntS 1 r0.length hr0 (by omega) (by omega)) ?_ ?_ ?_; rfl; rfl); ((conv=>whnf);repeat((first|refine Ct ‹_› ?_|refine Cf ‹_› ?_|refine Ct rfl ?_|refine Cf rfl ?_|refine Bi rfl ?_|refine Bz rfl ?_|refine Lr ?_);conv=>whnf))
  repeat (refine Cnd_f (by simp) ?_; ((conv=>whnf);repeat((first|refine Ct ‹_› ?_|refine Cf ‹_› ?_|refine Ct rfl ?_|refine Cf rfl ?_|refine Bi rfl ?_|refine Bz rfl ?_|refine Lr ?_);conv=>whnf)))
  exact ⟨rfl, rfl, rfl⟩
end Go.Proofs.YtmkigiicofjiaaaGreatDoor.Ab
