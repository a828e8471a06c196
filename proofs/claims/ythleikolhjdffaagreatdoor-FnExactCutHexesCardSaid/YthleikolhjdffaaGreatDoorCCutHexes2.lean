/- Contracts of the functions that FnExactCutHexes reaches, by the abstract machine (part 2).
   Conditions: none. -/
import Derived.Test.YthleikolhjdffaaGreatDoorCCutHexes1
set_option linter.unusedVariables false
set_option linter.unusedSimpArgs false
namespace Go.Proofs.YthleikolhjdffaaGreatDoor.Ab
open Go Go.RowKit
attribute [local irreducible] Cnd Bnd Rw CallQ CallR CallRX Bts Isn Lc WLoop
set_option maxRecDepth 100000
set_option maxHeartbeats 1000000
theorem F_sAt (s : Stt) (hs : s.un.length ≤ 1048576) (i side : Int) :
    Fun E0 61 [.agg s.cs, vI i, vI side] [] (.v (.one (.own 0 (selU (atQ i side) s.un s.un.length).length))) [(0, rwI (selU (atQ i side) s.un s.un.length))] [] := by
  refine Fun_of_xc k61 rfl rfl (nrC (rwI_no _) nrN) ?_
  ((conv=>whnf);repeat((first|refine Ct ‹_› ?_|refine Cf ‹_› ?_|refine Ct rfl ?_|refine Cf rfl ?_|refine Bi rfl ?_|refine Bz rfl ?_|refine Lr ?_);conv=>whnf))
  refine Rw_i (rwI []) (rwI_nil _) ?_
  ((conv=>whnf);repeat((first|refine Ct ‹_› ?_|refine Cf ‹_› ?_|refine Ct rfl ?_|refine Cf rfl ?_|refine Bi rfl ?_|refine Bz rfl ?_|refine Lr ?_);conv=>whnf))
  refine Rw_i (rwI []) (rwI_nil _) ?_
  ((conv=>whnf);repeat((first|refine Ct ‹_› ?_|refine Cf ‹_› ?_|refine Ct rfl ?_|refine Cf rfl ?_|refine Bi rfl ?_|refine Bz rfl ?_|refine Lr ?_);conv=>whnf))
  refine WLoop_v2 ⟨[1, 2, 7, 11, 12, 13], [], []⟩ (fun (t : Int) (out : List Int) => hdS 34 [(1, .v (vI i)), (2, .v (vI side)), (7, .v (.one (.own (vkey 7) out.length))), (11, .v (.one (roU s.un))), (12, .v (vI s.un.length)), (13, .v (vI t))] [] [(vkey 7, rwI out)])
    (fun n t out => 0 ≤ t ∧ t + n = s.un.length ∧ out = selU (atQ i side) s.un t.toNat) s.un.length 0 [] rfl ⟨by omega, by omega, rfl⟩ ?_
  rintro n t out ⟨h1, h2, h3⟩
  have hle := selU_le (atQ i side) s.un t.toNat
  rw [← h3] at hle
  have hnx : selU (atQ i side) s.un (t + 1).toNat = if atQ i side (s.un.getD t.toNat Unt.d) = true then out ++ [t] else out := by
    rw [show (t + 1).toNat = t.toNat + 1 by omega, selU, ← h3, show ((t.toNat : Nat) : Int) = t by omega]
  ((conv=>whnf);repeat((first|refine Ct ‹_› ?_|refine Cf ‹_› ?_|refine Ct rfl ?_|refine Cf rfl ?_|refine Bi rfl ?_|refine Bz rfl ?_|refine Lr ?_);conv=>whnf))
  refine Cnd_i (fun g => ?_) (fun g => ?_)
  · have ht := of_decide_eq_true g
    ((conv=>whnf);repeat((first|refine Ct ‹_› ?_|refine Cf ‹_› ?_|refine Ct rfl ?_|refine Cf rfl ?_|refine Bi rfl ?_|refine Bz rfl ?_|refine Lr ?_);conv=>whnf))
    refine Bnd_i (⟨h1, ht⟩) ?_; ((conv=>whnf);repeat((first|refine Ct ‹_› ?_|refine Cf ‹_› ?_|refine Ct rfl ?_|refine Cf rfl ?_|refine Bi rfl ?_|refine Bz rfl ?_|refine Lr ?_);conv=>whnf))
    refine Cnd_i (fun g2 => ?_) (fun g2 => ?_)
    · ((conv=>whnf);repeat((first|refine Ct ‹_› ?_|refine Cf ‹_› ?_|refine Ct rfl ?_|refine Cf rfl ?_|refine Bi rfl ?_|refine Bz rfl ?_|refine Lr ?_);conv=>whnf))
      refine Cnd_i (fun g3 => ?_) (fun g3 => ?_)
      · ((conv=>whnf);repeat((first|refine Ct ‹_› ?_|refine Cf ‹_› ?_|refine Ct rfl ?_|refine Cf rfl ?_|refine Bi rfl ?_|refine Bz rfl ?_|refine Lr ?_);conv=>whnf))
        refine Rw_self ?_
        ((conv=>whnf);repeat((first|refine Ct ‹_› ?_|refine Cf ‹_› ?_|refine Ct rfl ?_|refine Cf rfl ?_|refine Bi rfl ?_|refine Bz rfl ?_|refine Lr ?_);conv=>whnf))
        refine Bnd_i ?_ ?_
        · show out.length + 1 < _
          omega
        ((conv=>whnf);repeat((first|refine Ct ‹_› ?_|refine Cf ‹_› ?_|refine Ct rfl ?_|refine Cf rfl ?_|refine Bi rfl ?_|refine Bz rfl ?_|refine Lr ?_);conv=>whnf))
        refine Rw_i (rwI (out ++ [t])) (rwI_app _ _ _ rfl) ?_
        ((conv=>whnf);repeat((first|refine Ct ‹_› ?_|refine Cf ‹_› ?_|refine Ct rfl ?_|refine Cf rfl ?_|refine Bi rfl ?_|refine Bz rfl ?_|refine Lr ?_);conv=>whnf))
        rw [if_pos (by rw [atQ, g2, g3]; rfl)] at hnx
        refine ⟨n - 1, t + 1, out ++ [t], ?_, by omega, by omega, by omega, hnx.symm⟩
        rw [wrapI (by omega)]; rfl
      · ((conv=>whnf);repeat((first|refine Ct ‹_› ?_|refine Cf ‹_› ?_|refine Ct rfl ?_|refine Cf rfl ?_|refine Bi rfl ?_|refine Bz rfl ?_|refine Lr ?_);conv=>whnf))
        rw [if_neg (by rw [atQ, g2, g3]; simp)] at hnx
        refine ⟨n - 1, t + 1, out, ?_, by omega, by omega, by omega, hnx.symm⟩
        rw [wrapI (by omega)]; rfl
    · ((conv=>whnf);repeat((first|refine Ct ‹_› ?_|refine Cf ‹_› ?_|refine Ct rfl ?_|refine Cf rfl ?_|refine Bi rfl ?_|refine Bz rfl ?_|refine Lr ?_);conv=>whnf))
      rw [if_neg (by rw [atQ, g2]; simp)] at hnx
      refine ⟨n - 1, t + 1, out, ?_, by omega, by omega, by omega, hnx.symm⟩
      rw [wrapI (by omega)]; rfl
  · have ht := of_decide_eq_false g
    ((conv=>whnf);repeat((first|refine Ct ‹_› ?_|refine Cf ‹_› ?_|refine Ct rfl ?_|refine Cf rfl ?_|refine Bi rfl ?_|refine Bz rfl ?_|refine Lr ?_);conv=>whnf))
    rw [h3, show t.toNat = s.un.length by omega]
    exact ⟨rfl, rfl, rfl⟩

/-- whose the first unit at a place is, -1 if there is none -/
def ownR (i : Int) : List Unt → Int
  | [] => -1
  | u :: l => if (u.at' == i) = true then u.side else ownR i l

theorem F_sOwner (s : Stt) (hs : s.un.length ≤ 1048576) (i : Int) : Fun E0 131 [.agg s.cs, vI i] [] (.v (vI (ownR i s.un))) [] [] := by
  refine Fun_of_xc k131 rfl rfl (fun k q h => by cases h) ?_
  ((conv=>whnf);repeat((first|refine Ct ‹_› ?_|refine Cf ‹_› ?_|refine Ct rfl ?_|refine Cf rfl ?_|refine Bi rfl ?_|refine Bz rfl ?_|refine Lr ?_);conv=>whnf))
  refine WLoop_v ⟨[1, 8, 9, 10], [], []⟩ (fun (t : Int) => hdS 21 [(1, .v (vI i)), (8, .v (.one (roU s.un))), (9, .v (vI s.un.length)), (10, .v (vI t))] [] [])
    (fun n t => 0 ≤ t ∧ t + n = s.un.length ∧ ownR i (s.un.drop t.toNat) = ownR i s.un) s.un.length 0 rfl ⟨by omega, by omega, rfl⟩ ?_
  rintro n t ⟨h1, h2, h3⟩
  ((conv=>whnf);repeat((first|refine Ct ‹_› ?_|refine Cf ‹_› ?_|refine Ct rfl ?_|refine Cf rfl ?_|refine Bi rfl ?_|refine Bz rfl ?_|refine Lr ?_);conv=>whnf))
  refine Cnd_i (fun g => ?_) (fun g => ?_)
  · have ht := of_decide_eq_true g
    rw [drop_cons (d := Unt.d) h1 ht, ownR] at h3
    ((conv=>whnf);repeat((first|refine Ct ‹_› ?_|refine Cf ‹_› ?_|refine Ct rfl ?_|refine Cf rfl ?_|refine Bi rfl ?_|refine Bz rfl ?_|refine Lr ?_);conv=>whnf))
    refine Bnd_i (⟨h1, ht⟩) ?_; ((conv=>whnf);repeat((first|refine Ct ‹_› ?_|refine Cf ‹_› ?_|refine Ct rfl ?_|refine Cf rfl ?_|refine Bi rfl ?_|refine Bz rfl ?_|refine Lr ?_);conv=>whnf))
    refine Cnd_i (fun g2 => ?_) (fun g2 => ?_)
    · rw [if_pos g2] at h3
      ((conv=>whnf);repeat((first|refine Ct ‹_› ?_|refine Cf ‹_› ?_|refine Ct rfl ?_|refine Cf rfl ?_|refine Bi rfl ?_|refine Bz rfl ?_|refine Lr ?_);conv=>whnf))
      rw [← h3]
      exact ⟨rfl, rfl, rfl⟩
    · rw [if_neg (by rw [g2]; simp)] at h3
      ((conv=>whnf);repeat((first|refine Ct ‹_› ?_|refine Cf ‹_› ?_|refine Ct rfl ?_|refine Cf rfl ?_|refine Bi rfl ?_|refine Bz rfl ?_|refine Lr ?_);conv=>whnf))
      refine ⟨n - 1, t + 1, ?_, by omega, by omega, by omega, h3⟩
      rw [wrapI (by omega)]; rfl
  · have ht := of_decide_eq_false g
    rw [show t.toNat = s.un.length by omega, List.drop_length, ownR] at h3
    ((conv=>whnf);repeat((first|refine Ct ‹_› ?_|refine Cf ‹_› ?_|refine Ct rfl ?_|refine Cf rfl ?_|refine Bi rfl ?_|refine Bz rfl ?_|refine Lr ?_);conv=>whnf))
    rw [← h3]
    exact ⟨rfl, rfl, rfl⟩

theorem F_ownerOf (s : Stt) (hs : s.un.length ≤ 1048576) (i : Int) : Fun E0 114 [.agg s.cs, vI i] [] (.v (vI (ownR i s.un))) [] [] := by
  refine Fun_of_xc k114 rfl rfl (fun k q h => by cases h) ?_
  ((conv=>whnf);repeat((first|refine Ct ‹_› ?_|refine Cf ‹_› ?_|refine Ct rfl ?_|refine Cf rfl ?_|refine Bi rfl ?_|refine Bz rfl ?_|refine Lr ?_);conv=>whnf))
  refine WLoop_v ⟨[1, 8, 9, 10], [], []⟩ (fun (t : Int) => hdS 21 [(1, .v (vI i)), (8, .v (.one (roU s.un))), (9, .v (vI s.un.length)), (10, .v (vI t))] [] [])
    (fun n t => 0 ≤ t ∧ t + n = s.un.length ∧ ownR i (s.un.drop t.toNat) = ownR i s.un) s.un.length 0 rfl ⟨by omega, by omega, rfl⟩ ?_
  rintro n t ⟨h1, h2, h3⟩
  ((conv=>whnf);repeat((first|refine Ct ‹_› ?_|refine Cf ‹_› ?_|refine Ct rfl ?_|refine Cf rfl ?_|refine Bi rfl ?_|refine Bz rfl ?_|refine Lr ?_);conv=>whnf))
  refine Cnd_i (fun g => ?_) (fun g => ?_)
  · have ht := of_decide_eq_true g
    rw [drop_cons (d := Unt.d) h1 ht, ownR] at h3
    ((conv=>whnf);repeat((first|refine Ct ‹_› ?_|refine Cf ‹_› ?_|refine Ct rfl ?_|refine Cf rfl ?_|refine Bi rfl ?_|refine Bz rfl ?_|refine Lr ?_);conv=>whnf))
    refine Bnd_i (⟨h1, ht⟩) ?_; ((conv=>whnf);repeat((first|refine Ct ‹_› ?_|refine Cf ‹_› ?_|refine Ct rfl ?_|refine Cf rfl ?_|refine Bi rfl ?_|refine Bz rfl ?_|refine Lr ?_);conv=>whnf))
    refine Cnd_i (fun g2 => ?_) (fun g2 => ?_)
    · rw [if_pos g2] at h3
      ((conv=>whnf);repeat((first|refine Ct ‹_› ?_|refine Cf ‹_› ?_|refine Ct rfl ?_|refine Cf rfl ?_|refine Bi rfl ?_|refine Bz rfl ?_|refine Lr ?_);conv=>whnf))
      rw [← h3]
      exact ⟨rfl, rfl, rfl⟩
    · rw [if_neg (by rw [g2]; simp)] at h3
      ((conv=>whnf);repeat((first|refine Ct ‹_› ?_|refine Cf ‹_› ?_|refine Ct rfl ?_|refine Cf rfl ?_|refine Bi rfl ?_|refine Bz rfl ?_|refine Lr ?_);conv=>whnf))
      refine ⟨n - 1, t + 1, ?_, by omega, by omega, by omega, h3⟩
      rw [wrapI (by omega)]; rfl
  · have ht := of_decide_eq_false g
    rw [show t.toNat = s.un.length by omega, List.drop_length, ownR] at h3
    ((conv=>whnf);repeat((first|refine Ct ‹_› ?_|refine Cf ‹_› ?_|refine Ct rfl ?_|refine Cf rfl ?_|refine Bi rfl ?_|refine Bz rfl ?_|refine Lr ?_);conv=>whnf))
    rw [← h3]
    exact ⟨rfl, rfl, rfl⟩

/-! ### how many of a side stand at a place -/
def cnt (us : List Unt) (n : Nat) (i s : Int) : Int := (selU (atQ i s) us n).length

theorem cnt_succ (us : List Unt) (n : Nat) (i s : Int) : cnt us (n + 1) i s = cnt us n i s + (if atQ i s (us.getD n Unt.d) = true then 1 else 0) := by
  unfold cnt
  rw [selU]
  split <;> simp

theorem cnt_b (us : List Unt) (n : Nat) (i s : Int) : 0 ≤ cnt us n i s ∧ cnt us n i s ≤ n := by
  have := selU_le (atQ i s) us n
  unfold cnt; omega

theorem cnt_mono (us : List Unt) {n m : Nat} (h : n ≤ m) (i s : Int) : cnt us n i s ≤ cnt us m i s := by
  induction h with
  | refl => exact Int.le_refl _
  | step _ ih => rw [cnt_succ]; split <;> omega

theorem cnt_pos {us : List Unt} {n k : Nat} {i s : Int} (h : k < n) (ha : (us.getD k Unt.d).at' = i) (hs : (us.getD k Unt.d).side = s) : 1 ≤ cnt us n i s := by
  have h1 := cnt_mono us (show k + 1 ≤ n by omega) i s
  rw [cnt_succ, if_pos (by rw [atQ, ha, hs]; simp)] at h1
  have := (cnt_b us k i s).1
  omega

def stk (st : Int) (us : List Unt) : Prop := ∀ k, k < us.length → 0 ≤ (us.getD k Unt.d).at' → cnt us us.length (us.getD k Unt.d).at' (1 - (us.getD k Unt.d).side) = 0 ∧ cnt us us.length (us.getD k Unt.d).at' (us.getD k Unt.d).side ≤ st

def pre (st : Int) (us : List Unt) (n : Nat) : Prop := ∀ k, k < n → 0 ≤ (us.getD k Unt.d).at' → cnt us (k + 1) (us.getD k Unt.d).at' (1 - (us.getD k Unt.d).side) = 0 ∧ cnt us (k + 1) (us.getD k Unt.d).at' (us.getD k Unt.d).side ≤ st

theorem pre_all {st : Int} {us : List Unt} (h0 : 0 ≤ st) : ∀ {n : Nat}, (∀ k, k < n → (us.getD k Unt.d).side = 0 ∨ (us.getD k Unt.d).side = 1) → pre st us n →
    ∀ i : Int, 0 ≤ i → (cnt us n i 0 = 0 ∨ cnt us n i 1 = 0) ∧ cnt us n i 0 ≤ st ∧ cnt us n i 1 ≤ st
  | 0, _, _, i, _ => by simp [cnt, selU, h0]
  | n + 1, hs, hp, i, hi => by
    have ih := pre_all (n := n) h0 (fun k hk => hs k (by omega)) (fun k hk => hp k (by omega)) i hi
    by_cases e : (us.getD n Unt.d).at' = i
    · have h1 := hp n (by omega) (by omega)
      rw [e] at h1
      rcases hs n (by omega) with e2 | e2
      · rw [e2] at h1
        have h2 : cnt us (n + 1) i 1 = 0 := h1.1
        exact ⟨.inr h2, h1.2, by omega⟩
      · rw [e2] at h1
        have h2 : cnt us (n + 1) i 0 = 0 := h1.1
        exact ⟨.inl h2, by omega, h1.2⟩
    · have z : ∀ s, cnt us (n + 1) i s = cnt us n i s := by
        intro s
        rw [cnt_succ, if_neg (by rw [atQ, show ((us.getD n Unt.d).at' == i) = false from beq_eq_false_iff_ne.2 e]; simp)]; omega
      rw [z, z]; exact ih

theorem stk_pre {st : Int} {us : List Unt} (h0 : 0 ≤ st) (hs : ∀ k, k < us.length → (us.getD k Unt.d).side = 0 ∨ (us.getD k Unt.d).side = 1) : stk st us ↔ pre st us us.length := by
  constructor
  · intro h k hk ha
    obtain ⟨h1, h2⟩ := h k hk ha
    have m1 := cnt_mono us (show k + 1 ≤ us.length by omega) (us.getD k Unt.d).at' (1 - (us.getD k Unt.d).side)
    have m2 := cnt_mono us (show k + 1 ≤ us.length by omega) (us.getD k Unt.d).at' (us.getD k Unt.d).side
    have p1 := (cnt_b us (k + 1) (us.getD k Unt.d).at' (1 - (us.getD k Unt.d).side)).1
    exact ⟨by omega, by omega⟩
  · intro h k hk ha
    obtain ⟨h1, h2, h3⟩ := pre_all h0 hs h _ ha
    have hp := cnt_pos (us := us) (n := us.length) hk rfl rfl
    rcases hs k hk with e | e
    · rw [e] at hp ⊢
      exact ⟨by show cnt us us.length _ 1 = 0; omega, h2⟩
    · rw [e] at hp ⊢
      exact ⟨by show cnt us us.length _ 0 = 0; omega, h3⟩

noncomputable instance instStk (st : Int) (us : List Unt) : Decidable (stk st us) := Classical.propDecidable _

noncomputable def okSt (b : Brd) (s : Stt) : Bool := In s.turn 0 b.r.turns && In s.wea 0 2 && decide (s.un.length ≤ 12) && s.un.all (okUnt b) && @decide (stk b.r.stack s.un) (instStk b.r.stack s.un)

theorem all_drop_ne {α : Type} {q : α → Bool} {l : List α} {d : α} {t : Int} (h0 : 0 ≤ t) (h1 : t < l.length) (h : q (l.getD t.toNat d) = false) : l.all q = false := by
  have hm := getD_memT (d := d) h0 h1
  cases e : l.all q with
  | false => rfl
  | true => rw [List.all_eq_true.1 e _ hm] at h; exact h

theorem all_of_lt {α : Type} {q : α → Bool} {l : List α} (d : α) (h : ∀ k, k < l.length → q (l.getD k d) = true) : l.all q = true := by
  rw [List.all_eq_true]
  intro x hx
  obtain ⟨k, hk, rfl⟩ := List.mem_iff_getElem.1 hx
  have := h k hk
  rwa [List.getD_eq_getElem?_getD, List.getElem?_eq_getElem hk] at this

theorem F_sGood (b : Brd) (ho : b.Ok) (s : Stt) (hs : s.Ok) : Fun E0 27 [.agg b.cs, .agg s.cs] [] (.v (vB (okBrd b && okSt b s))) [] [] := by
  refine Fun_of_xc k27 rfl rfl (fun k q h => by cases h) ?_
  ((conv=>whnf);repeat((first|refine Ct ‹_› ?_|refine Cf ‹_› ?_|refine Ct rfl ?_|refine Cf rfl ?_|refine Bi rfl ?_|refine Bz rfl ?_|refine Lr ?_);conv=>whnf))
  (refine CallQ_some (F_bGood b ho) ?_ ?_ ?_; rfl; rfl); ((conv=>whnf);repeat((first|refine Ct ‹_› ?_|refine Cf ‹_› ?_|refine Ct rfl ?_|refine Cf rfl ?_|refine Bi rfl ?_|refine Bz rfl ?_|refine Lr ?_);conv=>whnf))
  refine Cnd_i (fun g => ?_) (fun g => ?_)
  · have e0 : okBrd b = false := by simpa using g
    ((conv=>whnf);repeat((first|refine Ct ‹_› ?_|refine Cf ‹_› ?_|refine Ct rfl ?_|refine Cf rfl ?_|refine Bi rfl ?_|refine Bz rfl ?_|refine Lr ?_);conv=>whnf))
    rw [e0]
    exact ⟨rfl, rfl, rfl⟩
  have e0 : okBrd b = true := by simpa using g
  have h := GB.of ho e0
  ((conv=>whnf);repeat((first|refine Ct ‹_› ?_|refine Cf ‹_› ?_|refine Ct rfl ?_|refine Cf rfl ?_|refine Bi rfl ?_|refine Bz rfl ?_|refine Lr ?_);conv=>whnf))
  (refine CallQ_some (F_l1In _ _ _) ?_ ?_ ?_; rfl; rfl); ((conv=>whnf);repeat((first|refine Ct ‹_› ?_|refine Cf ‹_› ?_|refine Ct rfl ?_|refine Cf rfl ?_|refine Bi rfl ?_|refine Bz rfl ?_|refine Lr ?_);conv=>whnf))
  refine Cnd_i (fun g => ?_) (fun g => ?_)
  · have e1 : In s.turn 0 b.r.turns = false := by simpa using g
    ((conv=>whnf);repeat((first|refine Ct ‹_› ?_|refine Cf ‹_› ?_|refine Ct rfl ?_|refine Cf rfl ?_|refine Bi rfl ?_|refine Bz rfl ?_|refine Lr ?_);conv=>whnf))
    rw [e0, okSt, e1]
    exact ⟨rfl, rfl, rfl⟩
  have e1 : In s.turn 0 b.r.turns = true := by simpa using g
  ((conv=>whnf);repeat((first|refine Ct ‹_› ?_|refine Cf ‹_› ?_|refine Ct rfl ?_|refine Cf rfl ?_|refine Bi rfl ?_|refine Bz rfl ?_|refine Lr ?_);conv=>whnf))
  (refine CallQ_some (F_l1In _ _ _) ?_ ?_ ?_; rfl; rfl); ((conv=>whnf);repeat((first|refine Ct ‹_› ?_|refine Cf ‹_› ?_|refine Ct rfl ?_|refine Cf rfl ?_|refine Bi rfl ?_|refine Bz rfl ?_|refine Lr ?_);conv=>whnf))
  refine Cnd_i (fun g => ?_) (fun g => ?_)
  · have e2 : In s.wea 0 2 = false := by simpa using g
    ((conv=>whnf);repeat((first|refine Ct ‹_› ?_|refine Cf ‹_› ?_|refine Ct rfl ?_|refine Cf rfl ?_|refine Bi rfl ?_|refine Bz rfl ?_|refine Lr ?_);conv=>whnf))
    rw [e0, okSt, e1, e2]
    exact ⟨rfl, rfl, rfl⟩
  have e2 : In s.wea 0 2 = true := by simpa using g
  ((conv=>whnf);repeat((first|refine Ct ‹_› ?_|refine Cf ‹_› ?_|refine Ct rfl ?_|refine Cf rfl ?_|refine Bi rfl ?_|refine Bz rfl ?_|refine Lr ?_);conv=>whnf))
  refine Cnd_i (fun g => ?_) (fun g => ?_)
  · have e3 : decide (s.un.length ≤ 12) = false := by
      have := of_decide_eq_true g
      exact decide_eq_false (by omega)
    ((conv=>whnf);repeat((first|refine Ct ‹_› ?_|refine Cf ‹_› ?_|refine Ct rfl ?_|refine Cf rfl ?_|refine Bi rfl ?_|refine Bz rfl ?_|refine Lr ?_);conv=>whnf))
    rw [e0, okSt, e1, e2, e3]
    exact ⟨rfl, rfl, rfl⟩
  have hl : s.un.length ≤ 12 := by
    have := of_decide_eq_false g
    omega
  have e3 : decide (s.un.length ≤ 12) = true := decide_eq_true hl
  ((conv=>whnf);repeat((first|refine Ct ‹_› ?_|refine Cf ‹_› ?_|refine Ct rfl ?_|refine Cf rfl ?_|refine Bi rfl ?_|refine Bz rfl ?_|refine Lr ?_);conv=>whnf))
  refine WLoop_v ⟨[2, 3, 34, 35, 36], [2, 3], []⟩ (fun t : Int => hdS 80 [(2, .v (.one (.box 2 0))), (3, .v (.one (.box 3 0))), (34, .v (.one (roU s.un))), (35, .v (vI s.un.length)), (36, .v (vI t))] [(2, b.cs), (3, s.cs)] [])
    (fun n t => 0 ≤ t ∧ t + n = s.un.length ∧ ∀ k : Nat, (k : Int) < t → okUnt b (s.un.getD k Unt.d) = true) s.un.length 0 rfl ⟨by omega, by omega, fun k hk => by omega⟩ ?_
  rintro n t ⟨h1, h2, h3⟩
  ((conv=>whnf);repeat((first|refine Ct ‹_› ?_|refine Cf ‹_› ?_|refine Ct rfl ?_|refine Cf rfl ?_|refine Bi rfl ?_|refine Bz rfl ?_|refine Lr ?_);conv=>whnf))
  refine Cnd_i (fun g => ?_) (fun g => ?_)
  · have ht := of_decide_eq_true g
    ((conv=>whnf);repeat((first|refine Ct ‹_› ?_|refine Cf ‹_› ?_|refine Ct rfl ?_|refine Cf rfl ?_|refine Bi rfl ?_|refine Bz rfl ?_|refine Lr ?_);conv=>whnf))
    refine Bnd_i (⟨h1, ht⟩) ?_; ((conv=>whnf);repeat((first|refine Ct ‹_› ?_|refine Cf ‹_› ?_|refine Ct rfl ?_|refine Cf rfl ?_|refine Bi rfl ?_|refine Bz rfl ?_|refine Lr ?_);conv=>whnf))
    (refine CallQ_some (F_sUnit b h (s.un.getD t.toNat Unt.d)) ?_ ?_ ?_; rfl; rfl); ((conv=>whnf);repeat((first|refine Ct ‹_› ?_|refine Cf ‹_› ?_|refine Ct rfl ?_|refine Cf rfl ?_|refine Bi rfl ?_|refine Bz rfl ?_|refine Lr ?_);conv=>whnf))
    refine Cnd_i (fun g => ?_) (fun g => ?_)
    · have e4 : okUnt b (s.un.getD t.toNat Unt.d) = false := by simpa using g
      ((conv=>whnf);repeat((first|refine Ct ‹_› ?_|refine Cf ‹_› ?_|refine Ct rfl ?_|refine Cf rfl ?_|refine Bi rfl ?_|refine Bz rfl ?_|refine Lr ?_);conv=>whnf))
      rw [e0, okSt, e1, e2, e3, all_drop_ne h1 ht e4]
      exact ⟨rfl, rfl, rfl⟩
    have e4 : okUnt b (s.un.getD t.toNat Unt.d) = true := by simpa using g
    ((conv=>whnf);repeat((first|refine Ct ‹_› ?_|refine Cf ‹_› ?_|refine Ct rfl ?_|refine Cf rfl ?_|refine Bi rfl ?_|refine Bz rfl ?_|refine Lr ?_);conv=>whnf))
    refine ⟨n - 1, t + 1, ?_, by omega, by omega, by omega, fun k hk => ?_⟩
    · rw [wrapI (by omega)]; rfl
    · by_cases e : (k : Int) < t
      · exact h3 k e
      · rw [show k = t.toNat by omega]; exact e4
  have ht := of_decide_eq_false g
  have hu : ∀ k, k < s.un.length → okUnt b (s.un.getD k Unt.d) = true := fun k hk => h3 k (by omega)
  have e4 : s.un.all (okUnt b) = true := all_of_lt Unt.d hu
  have hU : ∀ k, k < s.un.length → UnOk b (s.un.getD k Unt.d) := fun k hk => UnOk.of h (hu k hk)
  ((conv=>whnf);repeat((first|refine Ct ‹_› ?_|refine Cf ‹_› ?_|refine Ct rfl ?_|refine Cf rfl ?_|refine Bi rfl ?_|refine Bz rfl ?_|refine Lr ?_);conv=>whnf))
  refine WLoop_v ⟨[2, 3, 46, 47, 48], [2, 3], []⟩ (fun t : Int => hdS 80 [(2, .v (.one (.box 2 0))), (3, .v (.one (.box 3 0))), (46, .v (.one (roU s.un))), (47, .v (vI s.un.length)), (48, .v (vI t))] [(2, b.cs), (3, s.cs)] [])
    (fun n t => 0 ≤ t ∧ t + n = s.un.length ∧ ∀ k : Nat, (k : Int) < t → 0 ≤ (s.un.getD k Unt.d).at' → cnt s.un s.un.length (s.un.getD k Unt.d).at' (1 - (s.un.getD k Unt.d).side) = 0 ∧ cnt s.un s.un.length (s.un.getD k Unt.d).at' (s.un.getD k Unt.d).side ≤ b.r.stack) s.un.length 0 rfl ⟨by omega, by omega, fun k hk => by omega⟩ ?_
  rintro n t ⟨h1, h2, h3⟩
  ((conv=>whnf);repeat((first|refine Ct ‹_› ?_|refine Cf ‹_› ?_|refine Ct rfl ?_|refine Cf rfl ?_|refine Bi rfl ?_|refine Bz rfl ?_|refine Lr ?_);conv=>whnf))
  refine Cnd_i (fun g => ?_) (fun g => ?_)
  · have ht := of_decide_eq_true g
    have hX := hU t.toNat (by omega)
    have hn : s.un.length - 1 - (s.un.length - 1) = 0 := by omega
    ((conv=>whnf);repeat((first|refine Ct ‹_› ?_|refine Cf ‹_› ?_|refine Ct rfl ?_|refine Cf rfl ?_|refine Bi rfl ?_|refine Bz rfl ?_|refine Lr ?_);conv=>whnf))
    refine Bnd_i (⟨h1, ht⟩) ?_; ((conv=>whnf);repeat((first|refine Ct ‹_› ?_|refine Cf ‹_› ?_|refine Ct rfl ?_|refine Cf rfl ?_|refine Bi rfl ?_|refine Bz rfl ?_|refine Lr ?_);conv=>whnf))
    refine Cnd_i (fun g5 => ?_) (fun g5 => ?_)
    · have d5 := of_decide_eq_true g5
      ((conv=>whnf);repeat((first|refine Ct ‹_› ?_|refine Cf ‹_› ?_|refine Ct rfl ?_|refine Cf rfl ?_|refine Bi rfl ?_|refine Bz rfl ?_|refine Lr ?_);conv=>whnf))
      rw [wrapI (n := 1 - (s.un.getD t.toNat Unt.d).side) (by have := hX.side; omega)]
      (refine CallQ_some (F_sAt s (by omega) (s.un.getD t.toNat Unt.d).at' (1 - (s.un.getD t.toNat Unt.d).side)) ?_ ?_ ?_; rfl; rfl); ((conv=>whnf);repeat((first|refine Ct ‹_› ?_|refine Cf ‹_› ?_|refine Ct rfl ?_|refine Cf rfl ?_|refine Bi rfl ?_|refine Bz rfl ?_|refine Lr ?_);conv=>whnf))
      refine Cnd_i (fun g6 => ?_) (fun g6 => ?_)
      · have d6 := of_decide_eq_true g6
        ((conv=>whnf);repeat((first|refine Ct ‹_› ?_|refine Cf ‹_› ?_|refine Ct rfl ?_|refine Cf rfl ?_|refine Bi rfl ?_|refine Bz rfl ?_|refine Lr ?_);conv=>whnf))
        have e5 : ¬ stk b.r.stack s.un := fun hh => by
          have := (hh t.toNat (by omega) d5).1
          unfold cnt at this
          omega
        rw [e0, okSt, e1, e2, e3, e4, decide_eq_false e5]
        exact ⟨rfl, rfl, rfl⟩
      have d6 := of_decide_eq_false g6
      ((conv=>whnf);repeat((first|refine Ct ‹_› ?_|refine Cf ‹_› ?_|refine Ct rfl ?_|refine Cf rfl ?_|refine Bi rfl ?_|refine Bz rfl ?_|refine Lr ?_);conv=>whnf))
      (refine CallQ_some (F_sAt s (by omega) (s.un.getD t.toNat Unt.d).at' (s.un.getD t.toNat Unt.d).side) ?_ ?_ ?_; rfl; rfl); ((conv=>whnf);repeat((first|refine Ct ‹_› ?_|refine Cf ‹_› ?_|refine Ct rfl ?_|refine Cf rfl ?_|refine Bi rfl ?_|refine Bz rfl ?_|refine Lr ?_);conv=>whnf))
      refine Cnd_i (fun g7 => ?_) (fun g7 => ?_)
      · have d7 := of_decide_eq_true g7
        ((conv=>whnf);repeat((first|refine Ct ‹_› ?_|refine Cf ‹_› ?_|refine Ct rfl ?_|refine Cf rfl ?_|refine Bi rfl ?_|refine Bz rfl ?_|refine Lr ?_);conv=>whnf))
        have e5 : ¬ stk b.r.stack s.un := fun hh => by
          have := (hh t.toNat (by omega) d5).2
          unfold cnt at this
          omega
        rw [e0, okSt, e1, e2, e3, e4, decide_eq_false e5]
        exact ⟨rfl, rfl, rfl⟩
      have d7 := of_decide_eq_false g7
      ((conv=>whnf);repeat((first|refine Ct ‹_› ?_|refine Cf ‹_› ?_|refine Ct rfl ?_|refine Cf rfl ?_|refine Bi rfl ?_|refine Bz rfl ?_|refine Lr ?_);conv=>whnf))
      refine ⟨n - 1, t + 1, ?_, by omega, by omega, by omega, fun k hk => ?_⟩
      · rw [wrapI (by omega)]; rfl
      · by_cases e : (k : Int) < t
        · exact h3 k e
        · rw [show k = t.toNat by omega]
          intro _
          unfold cnt
          omega
    · have d5 := of_decide_eq_false g5
      ((conv=>whnf);repeat((first|refine Ct ‹_› ?_|refine Cf ‹_› ?_|refine Ct rfl ?_|refine Cf rfl ?_|refine Bi rfl ?_|refine Bz rfl ?_|refine Lr ?_);conv=>whnf))
      refine ⟨n - 1, t + 1, ?_, by omega, by omega, by omega, fun k hk => ?_⟩
      · rw [wrapI (by omega)]; rfl
      · by_cases e : (k : Int) < t
        · exact h3 k e
        · rw [show k = t.toNat by omega]
          exact fun hh => absurd hh (by omega)
  have ht := of_decide_eq_false g
  ((conv=>whnf);repeat((first|refine Ct ‹_› ?_|refine Cf ‹_› ?_|refine Ct rfl ?_|refine Cf rfl ?_|refine Bi rfl ?_|refine Bz rfl ?_|refine Lr ?_);conv=>whnf))
  have e5 : stk b.r.stack s.un := fun k hk => h3 k (by omega)
  rw [e0, okSt, e1, e2, e3, e4, decide_eq_true e5]
  exact ⟨rfl, rfl, rfl⟩

theorem atQ_iff {i side : Int} {u : Unt} : atQ i side u = true ↔ u.at' = i ∧ u.side = side := by simp [atQ]

abbrev rwC (us : List Unt) (N : Nat) (t : Nat) : Row := ⟨false, 2, N, fun i j => cI (cnt us t i j)⟩

theorem F_goodState (b : Brd) (h : GB b) (s : Stt) (hs : s.Ok) : Fun E0 67 [.agg b.cs, .agg s.cs] [] (.v (vB (okSt b s))) [] [] := by
  have hst : 0 ≤ b.r.stack := by
    have := h.nums
    simp only [numsOk, Bool.and_eq_true] at this
    have := of_decide_eq_true this.1.1.1.1
    omega
  have hN := h.n
  have hNl : b.m.ter.length ≤ 1048576 := by have := h.wh.mul; omega
  refine Fun_of_xc k67 rfl rfl (fun k q h => by cases h) ?_
  ((conv=>whnf);repeat((first|refine Ct ‹_› ?_|refine Cf ‹_› ?_|refine Ct rfl ?_|refine Cf rfl ?_|refine Bi rfl ?_|refine Bz rfl ?_|refine Lr ?_);conv=>whnf))
  (refine CallQ_some (F_inRange _ _ _) ?_ ?_ ?_; rfl; rfl); ((conv=>whnf);repeat((first|refine Ct ‹_› ?_|refine Cf ‹_› ?_|refine Ct rfl ?_|refine Cf rfl ?_|refine Bi rfl ?_|refine Bz rfl ?_|refine Lr ?_);conv=>whnf))
  refine Cnd_i (fun g => ?_) (fun g => ?_)
  · have e1 : In s.turn 0 b.r.turns = false := by simpa using g
    ((conv=>whnf);repeat((first|refine Ct ‹_› ?_|refine Cf ‹_› ?_|refine Ct rfl ?_|refine Cf rfl ?_|refine Bi rfl ?_|refine Bz rfl ?_|refine Lr ?_);conv=>whnf))
    rw [okSt, e1]
    exact ⟨rfl, rfl, rfl⟩
  have e1 : In s.turn 0 b.r.turns = true := by simpa using g
  ((conv=>whnf);repeat((first|refine Ct ‹_› ?_|refine Cf ‹_› ?_|refine Ct rfl ?_|refine Cf rfl ?_|refine Bi rfl ?_|refine Bz rfl ?_|refine Lr ?_);conv=>whnf))
  (refine CallQ_some (F_inRange _ _ _) ?_ ?_ ?_; rfl; rfl); ((conv=>whnf);repeat((first|refine Ct ‹_› ?_|refine Cf ‹_› ?_|refine Ct rfl ?_|refine Cf rfl ?_|refine Bi rfl ?_|refine Bz rfl ?_|refine Lr ?_);conv=>whnf))
  refine Cnd_i (fun g => ?_) (fun g => ?_)
  · have e2 : In s.wea 0 2 = false := by simpa using g
    ((conv=>whnf);repeat((first|refine Ct ‹_› ?_|refine Cf ‹_› ?_|refine Ct rfl ?_|refine Cf rfl ?_|refine Bi rfl ?_|refine Bz rfl ?_|refine Lr ?_);conv=>whnf))
    rw [okSt, e1, e2]
    exact ⟨rfl, rfl, rfl⟩
  have e2 : In s.wea 0 2 = true := by simpa using g
  ((conv=>whnf);repeat((first|refine Ct ‹_› ?_|refine Cf ‹_› ?_|refine Ct rfl ?_|refine Cf rfl ?_|refine Bi rfl ?_|refine Bz rfl ?_|refine Lr ?_);conv=>whnf))
  refine Cnd_i (fun g => ?_) (fun g => ?_)
  · have e3 : decide (s.un.length ≤ 12) = false := by
      have := of_decide_eq_true g
      exact decide_eq_false (by omega)
    ((conv=>whnf);repeat((first|refine Ct ‹_› ?_|refine Cf ‹_› ?_|refine Ct rfl ?_|refine Cf rfl ?_|refine Bi rfl ?_|refine Bz rfl ?_|refine Lr ?_);conv=>whnf))
    rw [okSt, e1, e2, e3]
    exact ⟨rfl, rfl, rfl⟩
  have hl : s.un.length ≤ 12 := by
    have := of_decide_eq_false g
    omega
  have e3 : decide (s.un.length ≤ 12) = true := decide_eq_true hl
  ((conv=>whnf);repeat((first|refine Ct ‹_› ?_|refine Cf ‹_› ?_|refine Ct rfl ?_|refine Cf rfl ?_|refine Bi rfl ?_|refine Bz rfl ?_|refine Lr ?_);conv=>whnf))
  (refine CallQ_some (F_sizeOf b) ?_ ?_ ?_; rfl; rfl); ((conv=>whnf);repeat((first|refine Ct ‹_› ?_|refine Cf ‹_› ?_|refine Ct rfl ?_|refine Cf rfl ?_|refine Bi rfl ?_|refine Bz rfl ?_|refine Lr ?_);conv=>whnf))
  refine Bnd_i ?_ ?_
  · omega
  ((conv=>whnf);repeat((first|refine Ct ‹_› ?_|refine Cf ‹_› ?_|refine Ct rfl ?_|refine Cf rfl ?_|refine Bi rfl ?_|refine Bz rfl ?_|refine Lr ?_);conv=>whnf))
  refine Rw_i (rwC s.un b.m.ter.length 0) ⟨rfl, rfl, by simp [zeroRow], fun i j hi hj => ?_⟩ ?_
  · have hj : j < 2 := hj
    match j, hj with
    | 0, _ => rfl
    | 1, _ => rfl
  ((conv=>whnf);repeat((first|refine Ct ‹_› ?_|refine Cf ‹_› ?_|refine Ct rfl ?_|refine Cf rfl ?_|refine Bi rfl ?_|refine Bz rfl ?_|refine Lr ?_);conv=>whnf))
  refine WLoop_v ⟨[2, 5, 31, 32, 33], [2], []⟩ (fun t : Int => hdS 80 [(2, .v (.one (.box 2 0))), (5, .v (.one (.own (vkey 5) b.m.ter.length))), (31, .v (.one (roU s.un))), (32, .v (vI s.un.length)), (33, .v (vI t))] [(2, b.cs)] [(vkey 5, rwC s.un b.m.ter.length t.toNat)])
    (fun n t => 0 ≤ t ∧ t + n = s.un.length ∧ (∀ k : Nat, (k : Int) < t → okUnt b (s.un.getD k Unt.d) = true) ∧ pre b.r.stack s.un t.toNat) s.un.length 0 rfl ⟨by omega, by omega, fun k hk => by omega, fun k hk => by omega⟩ ?_
  rintro n t ⟨h1, h2, h3, h4⟩
  ((conv=>whnf);repeat((first|refine Ct ‹_› ?_|refine Cf ‹_› ?_|refine Ct rfl ?_|refine Cf rfl ?_|refine Bi rfl ?_|refine Bz rfl ?_|refine Lr ?_);conv=>whnf))
  refine Cnd_i (fun g => ?_) (fun g => ?_)
  · have ht := of_decide_eq_true g
    ((conv=>whnf);repeat((first|refine Ct ‹_› ?_|refine Cf ‹_› ?_|refine Ct rfl ?_|refine Cf rfl ?_|refine Bi rfl ?_|refine Bz rfl ?_|refine Lr ?_);conv=>whnf))
    refine Bnd_i (⟨h1, ht⟩) ?_; ((conv=>whnf);repeat((first|refine Ct ‹_› ?_|refine Cf ‹_› ?_|refine Ct rfl ?_|refine Cf rfl ?_|refine Bi rfl ?_|refine Bz rfl ?_|refine Lr ?_);conv=>whnf))
    (refine CallQ_some (F_goodUnit b h (s.un.getD t.toNat Unt.d)) ?_ ?_ ?_; rfl; rfl); ((conv=>whnf);repeat((first|refine Ct ‹_› ?_|refine Cf ‹_› ?_|refine Ct rfl ?_|refine Cf rfl ?_|refine Bi rfl ?_|refine Bz rfl ?_|refine Lr ?_);conv=>whnf))
    refine Cnd_i (fun g => ?_) (fun g => ?_)
    · have e4 : okUnt b (s.un.getD t.toNat Unt.d) = false := by simpa using g
      ((conv=>whnf);repeat((first|refine Ct ‹_› ?_|refine Cf ‹_› ?_|refine Ct rfl ?_|refine Cf rfl ?_|refine Bi rfl ?_|refine Bz rfl ?_|refine Lr ?_);conv=>whnf))
      rw [okSt, e1, e2, e3, all_drop_ne h1 ht e4]
      exact ⟨rfl, rfl, rfl⟩
    have e4 : okUnt b (s.un.getD t.toNat Unt.d) = true := by simpa using g
    have hU := UnOk.of h e4
    have h3' : ∀ k : Nat, (k : Int) < t + 1 → okUnt b (s.un.getD k Unt.d) = true := fun k hk => by
      by_cases e : (k : Int) < t
      · exact h3 k e
      · rw [show k = t.toNat by omega]; exact e4
    have hs1 := cnt_succ s.un t.toNat
    have hb1 := fun i s' => (cnt_b s.un t.toNat i s')
    ((conv=>whnf);repeat((first|refine Ct ‹_› ?_|refine Cf ‹_› ?_|refine Ct rfl ?_|refine Cf rfl ?_|refine Bi rfl ?_|refine Bz rfl ?_|refine Lr ?_);conv=>whnf))
    refine Cnd_i (fun g5 => ?_) (fun g5 => ?_)
    · have d5 := of_decide_eq_true g5
      ((conv=>whnf);repeat((first|refine Ct ‹_› ?_|refine Cf ‹_› ?_|refine Ct rfl ?_|refine Cf rfl ?_|refine Bi rfl ?_|refine Bz rfl ?_|refine Lr ?_);conv=>whnf))
      have hx : ∀ i : Nat, ∀ s', cnt s.un (t.toNat + 1) i s' = cnt s.un t.toNat i s' := fun i s' => by
        rw [hs1, if_neg (by rw [atQ, show ((s.un.getD t.toNat Unt.d).at' == (i : Int)) = false from beq_eq_false_iff_ne.2 (by omega)]; simp)]
        omega
      refine ⟨n - 1, t + 1, ?_, by omega, by omega, by omega, h3', ?_⟩
      · rw [wrapI (by omega), show (t + 1).toNat = t.toNat + 1 by omega]
        unfold rwC
        simp only [hx]
        rfl
      · rw [show (t + 1).toNat = t.toNat + 1 by omega]
        intro k hk ha
        by_cases e : k < t.toNat
        · exact h4 k e ha
        · rw [show k = t.toNat by omega] at ha
          omega
    · have d5 := of_decide_eq_false g5
      have hat : 0 ≤ (s.un.getD t.toNat Unt.d).at' ∧ (s.un.getD t.toNat Unt.d).at' < b.m.ter.length := by have := hU.at'; omega
      ((conv=>whnf);repeat((first|refine Ct ‹_› ?_|refine Cf ‹_› ?_|refine Ct rfl ?_|refine Cf rfl ?_|refine Bi rfl ?_|refine Bz rfl ?_|refine Lr ?_);conv=>whnf))
      refine Bnd_i (hat) ?_; ((conv=>whnf);repeat((first|refine Ct ‹_› ?_|refine Cf ‹_› ?_|refine Ct rfl ?_|refine Cf rfl ?_|refine Bi rfl ?_|refine Bz rfl ?_|refine Lr ?_);conv=>whnf))
      refine Bnd_i (⟨by have := hU.side; omega, by have := hU.side; show _ < (2 : Int); omega⟩) ?_; ((conv=>whnf);repeat((first|refine Ct ‹_› ?_|refine Cf ‹_› ?_|refine Ct rfl ?_|refine Cf rfl ?_|refine Bi rfl ?_|refine Bz rfl ?_|refine Lr ?_);conv=>whnf))
      have hsd := hU.side
      have hsi : 0 ≤ (s.un.getD t.toNat Unt.d).side ∧ (s.un.getD t.toNat Unt.d).side < ((2 : Nat) : Int) := by omega
      have hso : 0 + (s.un.getD t.toNat Unt.d).side.toNat * 1 + 1 ≤ 2 := by omega
      have hso2 : 0 + (1 - (s.un.getD t.toNat Unt.d).side).toNat * 1 + 1 ≤ 2 := by omega
      refine Bnd_i (Nat.ble_eq_true_of_le hso) ?_; ((conv=>whnf);repeat((first|refine Ct ‹_› ?_|refine Cf ‹_› ?_|refine Ct rfl ?_|refine Cf rfl ?_|refine Bi rfl ?_|refine Bz rfl ?_|refine Lr ?_);conv=>whnf))
      refine Bnd_i (hat) ?_; ((conv=>whnf);repeat((first|refine Ct ‹_› ?_|refine Cf ‹_› ?_|refine Ct rfl ?_|refine Cf rfl ?_|refine Bi rfl ?_|refine Bz rfl ?_|refine Lr ?_);conv=>whnf))
      refine Bnd_i (hsi) ?_; ((conv=>whnf);repeat((first|refine Ct ‹_› ?_|refine Cf ‹_› ?_|refine Ct rfl ?_|refine Cf rfl ?_|refine Bi rfl ?_|refine Bz rfl ?_|refine Lr ?_);conv=>whnf))
      refine Bnd_i (Nat.ble_eq_true_of_le hso) ?_; ((conv=>whnf);repeat((first|refine Ct ‹_› ?_|refine Cf ‹_› ?_|refine Ct rfl ?_|refine Cf rfl ?_|refine Bi rfl ?_|refine Bz rfl ?_|refine Lr ?_);conv=>whnf))
      refine Rw_i (rwC s.un b.m.ter.length (t.toNat + 1)) ⟨rfl, rfl, rfl, fun i j hi hj => ?_⟩ ?_
      · have hj : j < 2 := hj
        show wrG (rwC s.un b.m.ter.length t.toNat).get (s.un.getD t.toNat Unt.d).at'.toNat (0 + (s.un.getD t.toNat Unt.d).side.toNat * 1) [cI (IntKind.i64.wrap (cnt s.un t.toNat ((s.un.getD t.toNat Unt.d).at'.toNat : Nat) ((0 + (s.un.getD t.toNat Unt.d).side.toNat * 1 : Nat)) + 1))] i j = cI (cnt s.un (t.toNat + 1) i j)
        by_cases e : i = (s.un.getD t.toNat Unt.d).at'.toNat ∧ j = (s.un.getD t.toNat Unt.d).side.toNat
        · obtain ⟨rfl, rfl⟩ := e
          rw [wrG_in (by simp), show 0 + (s.un.getD t.toNat Unt.d).side.toNat * 1 = (s.un.getD t.toNat Unt.d).side.toNat by omega, hs1, if_pos (atQ_iff.2 ⟨by omega, by omega⟩), wrapI (by have := hb1 ((s.un.getD t.toNat Unt.d).at'.toNat : Nat) ((s.un.getD t.toNat Unt.d).side.toNat : Nat); omega)]
          simp [nth]
        · rw [wrG_out (by rintro ⟨e1, e2, e3⟩; have e3' : j < 0 + (s.un.getD t.toNat Unt.d).side.toNat * 1 + 1 := e3; exact e ⟨e1, by omega⟩)]
          show cI _ = cI _
          rw [hs1, if_neg (fun hh => e (by have := atQ_iff.1 hh; omega)), Int.add_zero]
      ((conv=>whnf);repeat((first|refine Ct ‹_› ?_|refine Cf ‹_› ?_|refine Ct rfl ?_|refine Cf rfl ?_|refine Bi rfl ?_|refine Bz rfl ?_|refine Lr ?_);conv=>whnf))
      refine Bnd_i (hat) ?_; ((conv=>whnf);repeat((first|refine Ct ‹_› ?_|refine Cf ‹_› ?_|refine Ct rfl ?_|refine Cf rfl ?_|refine Bi rfl ?_|refine Bz rfl ?_|refine Lr ?_);conv=>whnf))
      rw [wrapI (n := 1 - (s.un.getD t.toNat Unt.d).side) (by omega)]
      refine Bnd_i (⟨by omega, by omega⟩) ?_; ((conv=>whnf);repeat((first|refine Ct ‹_› ?_|refine Cf ‹_› ?_|refine Ct rfl ?_|refine Cf rfl ?_|refine Bi rfl ?_|refine Bz rfl ?_|refine Lr ?_);conv=>whnf))
      refine Bnd_i (Nat.ble_eq_true_of_le hso2) ?_; ((conv=>whnf);repeat((first|refine Ct ‹_› ?_|refine Cf ‹_› ?_|refine Ct rfl ?_|refine Cf rfl ?_|refine Bi rfl ?_|refine Bz rfl ?_|refine Lr ?_);conv=>whnf))
      have ea : (((s.un.getD t.toNat Unt.d).at'.toNat : Nat) : Int) = (s.un.getD t.toNat Unt.d).at' := by omega
      have eb : ((0 + (1 - (s.un.getD t.toNat Unt.d).side).toNat * 1 : Nat) : Int) = 1 - (s.un.getD t.toNat Unt.d).side := by omega
      have ec : ((0 + (s.un.getD t.toNat Unt.d).side.toNat * 1 : Nat) : Int) = (s.un.getD t.toNat Unt.d).side := by omega
      have bad : ¬ (cnt s.un (t.toNat + 1) (s.un.getD t.toNat Unt.d).at' (1 - (s.un.getD t.toNat Unt.d).side) = 0 ∧ cnt s.un (t.toNat + 1) (s.un.getD t.toNat Unt.d).at' (s.un.getD t.toNat Unt.d).side ≤ b.r.stack) → decide (stk b.r.stack s.un) = false := fun hh => by
        refine decide_eq_false fun hk => hh ?_
        have a1 := hk t.toNat (by omega) hat.1
        have a2 := cnt_mono s.un (show t.toNat + 1 ≤ s.un.length by omega) (s.un.getD t.toNat Unt.d).at' (1 - (s.un.getD t.toNat Unt.d).side)
        have a3 := cnt_mono s.un (show t.toNat + 1 ≤ s.un.length by omega) (s.un.getD t.toNat Unt.d).at' (s.un.getD t.toNat Unt.d).side
        have a4 := (cnt_b s.un (t.toNat + 1) (s.un.getD t.toNat Unt.d).at' (1 - (s.un.getD t.toNat Unt.d).side)).1
        omega
      have a4 := (cnt_b s.un (t.toNat + 1) (s.un.getD t.toNat Unt.d).at' (1 - (s.un.getD t.toNat Unt.d).side)).1
      refine Cnd_i (fun g6 => ?_) (fun g6 => ?_)
      · have d6 : cnt s.un (t.toNat + 1) ((s.un.getD t.toNat Unt.d).at'.toNat : Nat) ((0 + (1 - (s.un.getD t.toNat Unt.d).side).toNat * 1 : Nat)) > 0 := of_decide_eq_true g6
        rw [ea, eb] at d6
        ((conv=>whnf);repeat((first|refine Ct ‹_› ?_|refine Cf ‹_› ?_|refine Ct rfl ?_|refine Cf rfl ?_|refine Bi rfl ?_|refine Bz rfl ?_|refine Lr ?_);conv=>whnf))
        rw [okSt, e1, e2, e3, bad (by omega)]
        rw [Bool.and_false]
        exact ⟨rfl, rfl, rfl⟩
      · have d6 : ¬ cnt s.un (t.toNat + 1) ((s.un.getD t.toNat Unt.d).at'.toNat : Nat) ((0 + (1 - (s.un.getD t.toNat Unt.d).side).toNat * 1 : Nat)) > 0 := of_decide_eq_false g6
        rw [ea, eb] at d6
        ((conv=>whnf);repeat((first|refine Ct ‹_› ?_|refine Cf ‹_› ?_|refine Ct rfl ?_|refine Cf rfl ?_|refine Bi rfl ?_|refine Bz rfl ?_|refine Lr ?_);conv=>whnf))
        refine Bnd_i (hat) ?_; ((conv=>whnf);repeat((first|refine Ct ‹_› ?_|refine Cf ‹_› ?_|refine Ct rfl ?_|refine Cf rfl ?_|refine Bi rfl ?_|refine Bz rfl ?_|refine Lr ?_);conv=>whnf))
        refine Bnd_i (hsi) ?_; ((conv=>whnf);repeat((first|refine Ct ‹_› ?_|refine Cf ‹_› ?_|refine Ct rfl ?_|refine Cf rfl ?_|refine Bi rfl ?_|refine Bz rfl ?_|refine Lr ?_);conv=>whnf))
        refine Bnd_i (Nat.ble_eq_true_of_le hso) ?_; ((conv=>whnf);repeat((first|refine Ct ‹_› ?_|refine Cf ‹_› ?_|refine Ct rfl ?_|refine Cf rfl ?_|refine Bi rfl ?_|refine Bz rfl ?_|refine Lr ?_);conv=>whnf))
        refine Cnd_i (fun g7 => ?_) (fun g7 => ?_)
        · have d7 : cnt s.un (t.toNat + 1) ((s.un.getD t.toNat Unt.d).at'.toNat : Nat) ((0 + (s.un.getD t.toNat Unt.d).side.toNat * 1 : Nat)) > b.r.stack := of_decide_eq_true g7
          rw [ea, ec] at d7
          ((conv=>whnf);repeat((first|refine Ct ‹_› ?_|refine Cf ‹_› ?_|refine Ct rfl ?_|refine Cf rfl ?_|refine Bi rfl ?_|refine Bz rfl ?_|refine Lr ?_);conv=>whnf))
          rw [okSt, e1, e2, e3, bad (by omega)]
          rw [Bool.and_false]
          exact ⟨rfl, rfl, rfl⟩
        · have d7 : ¬ cnt s.un (t.toNat + 1) ((s.un.getD t.toNat Unt.d).at'.toNat : Nat) ((0 + (s.un.getD t.toNat Unt.d).side.toNat * 1 : Nat)) > b.r.stack := of_decide_eq_false g7
          rw [ea, ec] at d7
          ((conv=>whnf);repeat((first|refine Ct ‹_› ?_|refine Cf ‹_› ?_|refine Ct rfl ?_|refine Cf rfl ?_|refine Bi rfl ?_|refine Bz rfl ?_|refine Lr ?_);conv=>whnf))
          refine ⟨n - 1, t + 1, ?_, by omega, by omega, by omega, h3', ?_⟩
          · rw [wrapI (by omega), show (t + 1).toNat = t.toNat + 1 by omega]
            rfl
          · rw [show (t + 1).toNat = t.toNat + 1 by omega]
            intro k hk ha
            by_cases e : k < t.toNat
            · exact h4 k e ha
            · rw [show k = t.toNat by omega]
              exact ⟨by omega, by omega⟩
  · have ht := of_decide_eq_false g
    ((conv=>whnf);repeat((first|refine Ct ‹_› ?_|refine Cf ‹_› ?_|refine Ct rfl ?_|refine Cf rfl ?_|refine Bi rfl ?_|refine Bz rfl ?_|refine Lr ?_);conv=>whnf))
    have e4 : s.un.all (okUnt b) = true := all_of_lt Unt.d fun k hk => h3 k (by omega)
    have e5 : stk b.r.stack s.un := (stk_pre hst fun k hk => (UnOk.of h (h3 k (by omega))).side).2 (by rw [show s.un.length = t.toNat by omega]; exact h4)
    rw [okSt, e1, e2, e3, e4, decide_eq_true e5]
    exact ⟨rfl, rfl, rfl⟩

theorem F_fits (b : Brd) (ho : b.Ok) (s : Stt) (hs : s.Ok) : Fun E0 32 [.agg b.cs, .agg s.cs] [] (.v (vB (okBrd b && okSt b s))) [] [] := by
  refine Fun_of_xc k32 rfl rfl (fun k q h => by cases h) ?_
  ((conv=>whnf);repeat((first|refine Ct ‹_› ?_|refine Cf ‹_› ?_|refine Ct rfl ?_|refine Cf rfl ?_|refine Bi rfl ?_|refine Bz rfl ?_|refine Lr ?_);conv=>whnf))
  (refine CallQ_some (F_IsBoard b ho) ?_ ?_ ?_; rfl; rfl); ((conv=>whnf);repeat((first|refine Ct ‹_› ?_|refine Cf ‹_› ?_|refine Ct rfl ?_|refine Cf rfl ?_|refine Bi rfl ?_|refine Bz rfl ?_|refine Lr ?_);conv=>whnf))
  refine Cnd_i (fun g => ?_) (fun g => ?_)
  · ((conv=>whnf);repeat((first|refine Ct ‹_› ?_|refine Cf ‹_› ?_|refine Ct rfl ?_|refine Cf rfl ?_|refine Bi rfl ?_|refine Bz rfl ?_|refine Lr ?_);conv=>whnf))
    (refine CallQ_some (F_goodState b (GB.of ho g) s hs) ?_ ?_ ?_; rfl; rfl); ((conv=>whnf);repeat((first|refine Ct ‹_› ?_|refine Cf ‹_› ?_|refine Ct rfl ?_|refine Cf rfl ?_|refine Bi rfl ?_|refine Bz rfl ?_|refine Lr ?_);conv=>whnf))
    rw [g]
    exact ⟨rfl, rfl, rfl⟩
  · ((conv=>whnf);repeat((first|refine Ct ‹_› ?_|refine Cf ‹_› ?_|refine Ct rfl ?_|refine Cf rfl ?_|refine Bi rfl ?_|refine Bz rfl ?_|refine Lr ?_);conv=>whnf))
    rw [g]
    exact ⟨rfl, rfl, rfl⟩

structure StOk (b : Brd) (s : Stt) : Prop where
  gb : GB b
  turn : 0 ≤ s.turn ∧ s.turn ≤ b.r.turns
  wea : 0 ≤ s.wea ∧ s.wea ≤ 2
  len : s.un.length ≤ 12
  un : ∀ u ∈ s.un, UnOk b u
  stk : stk b.r.stack s.un

theorem StOk.of {b : Brd} {s : Stt} (ho : b.Ok) (h : (okBrd b && okSt b s) = true) : StOk b s := by
  simp only [okSt, Bool.and_eq_true] at h
  obtain ⟨h0, ⟨⟨⟨h1, h2⟩, h3⟩, h4⟩, h5⟩ := h
  have g := GB.of ho h0
  exact ⟨g, of_decide_eq_true h1, of_decide_eq_true h2, of_decide_eq_true h3, fun u hu => UnOk.of g (List.all_eq_true.1 h4 u hu), of_decide_eq_true h5⟩

theorem StOk.side {b : Brd} {s : Stt} (h : StOk b s) {k : Nat} (hk : k < s.un.length) : (s.un.getD k Unt.d).side = 0 ∨ (s.un.getD k Unt.d).side = 1 := by
  refine (h.un _ ?_).side
  have := getD_memT (l := s.un) (d := Unt.d) (i := (k : Int)) (by omega) (by omega)
  rwa [Int.toNat_natCast] at this

theorem ownR_spec (i : Int) (us : List Unt) : ((∀ k, k < us.length → (us.getD k Unt.d).at' ≠ i) ∧ ownR i us = -1) ∨ ∃ k, k < us.length ∧ (us.getD k Unt.d).at' = i ∧ (us.getD k Unt.d).side = ownR i us := by
  induction us with
  | nil => exact .inl ⟨fun k hk => by simp at hk, rfl⟩
  | cons u l ih =>
    by_cases e : u.at' = i
    · exact .inr ⟨0, by simp, by simpa using e, by rw [ownR, if_pos (by simpa using e)]; simp⟩
    · rw [ownR, if_neg (by simpa using e)]
      rcases ih with ⟨h1, h2⟩ | ⟨k, h1, h2, h3⟩
      · refine .inl ⟨fun k hk => ?_, h2⟩
        cases k with
        | zero => simpa using e
        | succ k => simpa using h1 k (by simpa using hk)
      · exact .inr ⟨k + 1, by simpa using h1, by simpa using h2, by simpa using h3⟩

def zDir (m : Map) (a i : Int) : Nat → Int → Bool
  | 0, _ => false
  | n + 1, d => if (nx m a d == i) = true then (!(m.riv.contains (ed m a d)) || m.roa.contains (ed m a d)) else zDir m a i n (d + 1)

/-- does a unit control a place -/
def zx (b : Brd) (u : Unt) (i : Int) : Bool := if decide (u.at' < 0) = true then false else if (b.r.knd.getD u.kind.toNat Knd.d).zone = true then
  if (costAt b u.kind i == 0) = true then false else zDir b.m u.at' i 6 0 else false

theorem F_zExerts (b : Brd) (s : Stt) (h : StOk b s) (t i : Int) (t0 : 0 ≤ t) (t1 : t < s.un.length) (i0 : 0 ≤ i) (i1 : i < b.m.ter.length) :
    Fun E0 160 [.agg b.cs, .agg s.cs, vI t, vI i] [] (.v (vB (zx b (s.un.getD t.toNat Unt.d) i))) [] [] := by
  have hU := h.un _ (getD_memT (d := Unt.d) t0 t1)
  have hk := hU.kind
  have hm := h.gb.wh.mul
  have hn := h.gb.n
  refine Fun_of_xc k160 rfl rfl (fun k q h => by cases h) ?_
  ((conv=>whnf);repeat((first|refine Ct ‹_› ?_|refine Cf ‹_› ?_|refine Ct rfl ?_|refine Cf rfl ?_|refine Bi rfl ?_|refine Bz rfl ?_|refine Lr ?_);conv=>whnf))
  refine Bnd_i (⟨t0, t1⟩) ?_; ((conv=>whnf);repeat((first|refine Ct ‹_› ?_|refine Cf ‹_› ?_|refine Ct rfl ?_|refine Cf rfl ?_|refine Bi rfl ?_|refine Bz rfl ?_|refine Lr ?_);conv=>whnf))
  refine Cnd_i (fun g1 => ?_) (fun g1 => ?_)
  · ((conv=>whnf);repeat((first|refine Ct ‹_› ?_|refine Cf ‹_› ?_|refine Ct rfl ?_|refine Cf rfl ?_|refine Bi rfl ?_|refine Bz rfl ?_|refine Lr ?_);conv=>whnf))
    rw [zx, if_pos g1]
    exact ⟨rfl, rfl, rfl⟩
  have e1 : ¬ decide ((s.un.getD t.toNat Unt.d).at' < 0) = true := by rw [g1]; simp
  have ha := of_decide_eq_false g1
  have hat : 0 ≤ (s.un.getD t.toNat Unt.d).at' ∧ (s.un.getD t.toNat Unt.d).at' < b.m.ter.length := by have := hU.at'; omega
  ((conv=>whnf);repeat((first|refine Ct ‹_› ?_|refine Cf ‹_› ?_|refine Ct rfl ?_|refine Cf rfl ?_|refine Bi rfl ?_|refine Bz rfl ?_|refine Lr ?_);conv=>whnf))
  refine Bnd_i (⟨hk.1, hk.2⟩) ?_; ((conv=>whnf);repeat((first|refine Ct ‹_› ?_|refine Cf ‹_› ?_|refine Ct rfl ?_|refine Cf rfl ?_|refine Bi rfl ?_|refine Bz rfl ?_|refine Lr ?_);conv=>whnf))
  refine Cnd_i (fun g2 => ?_) (fun g2 => ?_)
  · ((conv=>whnf);repeat((first|refine Ct ‹_› ?_|refine Cf ‹_› ?_|refine Ct rfl ?_|refine Cf rfl ?_|refine Bi rfl ?_|refine Bz rfl ?_|refine Lr ?_);conv=>whnf))
    have e2 : (b.r.knd.getD (s.un.getD t.toNat Unt.d).kind.toNat Knd.d).zone = false := by rwa [Bool.not_eq_true'] at g2
    rw [zx, if_neg e1, e2]
    exact ⟨rfl, rfl, rfl⟩
  have e2 : (b.r.knd.getD (s.un.getD t.toNat Unt.d).kind.toNat Knd.d).zone = true := by rwa [Bool.not_eq_false'] at g2
  ((conv=>whnf);repeat((first|refine Ct ‹_› ?_|refine Cf ‹_› ?_|refine Ct rfl ?_|refine Cf rfl ?_|refine Bi rfl ?_|refine Bz rfl ?_|refine Lr ?_);conv=>whnf))
  (refine CallQ_some (F_bCost b h.gb (s.un.getD t.toNat Unt.d).kind i i0 i1 hk.1 hk.2) ?_ ?_ ?_; rfl; rfl); ((conv=>whnf);repeat((first|refine Ct ‹_› ?_|refine Cf ‹_› ?_|refine Ct rfl ?_|refine Cf rfl ?_|refine Bi rfl ?_|refine Bz rfl ?_|refine Lr ?_);conv=>whnf))
  refine Cnd_i (fun g3 => ?_) (fun g3 => ?_)
  · ((conv=>whnf);repeat((first|refine Ct ‹_› ?_|refine Cf ‹_› ?_|refine Ct rfl ?_|refine Cf rfl ?_|refine Bi rfl ?_|refine Bz rfl ?_|refine Lr ?_);conv=>whnf))
    rw [zx, if_neg e1, if_pos e2, if_pos g3]
    exact ⟨rfl, rfl, rfl⟩
  ((conv=>whnf);repeat((first|refine Ct ‹_› ?_|refine Cf ‹_› ?_|refine Ct rfl ?_|refine Cf rfl ?_|refine Bi rfl ?_|refine Bz rfl ?_|refine Lr ?_);conv=>whnf))
  rw [zx, if_neg e1, if_pos e2, if_neg (by rw [g3]; simp)]
  generalize s.un.getD t.toNat Unt.d = u at hat hk ⊢
  refine WLoop_v ⟨[3, 4, 9, 10], [4, 9], []⟩ (fun (d : Int) => hdS 65 [(3, .v (vI i)), (4, .v (.one (.box 4 0))), (9, .v (.one (.box 9 0))), (10, .v (vI d))] [(4, b.cs), (9, u.cs)] [])
    (fun n d => 0 ≤ d ∧ d + n = 6 ∧ zDir b.m u.at' i n d = zDir b.m u.at' i 6 0) 6 0 rfl ⟨by omega, by omega, rfl⟩ ?_
  rintro n d ⟨h1, h2, h3⟩
  ((conv=>whnf);repeat((first|refine Ct ‹_› ?_|refine Cf ‹_› ?_|refine Ct rfl ?_|refine Cf rfl ?_|refine Bi rfl ?_|refine Bz rfl ?_|refine Lr ?_);conv=>whnf))
  refine Cnd_i (fun g => ?_) (fun g => ?_)
  · have hd := of_decide_eq_true g
    obtain ⟨n, rfl⟩ : ∃ n', n = n' + 1 := ⟨n - 1, by omega⟩
    rw [zDir] at h3
    ((conv=>whnf);repeat((first|refine Ct ‹_› ?_|refine Cf ‹_› ?_|refine Ct rfl ?_|refine Cf rfl ?_|refine Bi rfl ?_|refine Bz rfl ?_|refine Lr ?_);conv=>whnf))
    (refine CallQ_some (F_mNext b.m h.gb.wh u.at' d hat.1 (by omega) h1 (by omega)) ?_ ?_ ?_; rfl; rfl); ((conv=>whnf);repeat((first|refine Ct ‹_› ?_|refine Cf ‹_› ?_|refine Ct rfl ?_|refine Cf rfl ?_|refine Bi rfl ?_|refine Bz rfl ?_|refine Lr ?_);conv=>whnf))
    refine Cnd_i (fun g4 => ?_) (fun g4 => ?_)
    · rw [if_pos g4] at h3
      ((conv=>whnf);repeat((first|refine Ct ‹_› ?_|refine Cf ‹_› ?_|refine Ct rfl ?_|refine Cf rfl ?_|refine Bi rfl ?_|refine Bz rfl ?_|refine Lr ?_);conv=>whnf))
      (refine CallQ_some (F_mRiver b.m h.gb.wh h.gb.ok.m u.at' d hat.1 (by omega) h1 (by omega)) ?_ ?_ ?_; rfl; rfl); ((conv=>whnf);repeat((first|refine Ct ‹_› ?_|refine Cf ‹_› ?_|refine Ct rfl ?_|refine Cf rfl ?_|refine Bi rfl ?_|refine Bz rfl ?_|refine Lr ?_);conv=>whnf))
      refine Cnd_i (fun g5 => ?_) (fun g5 => ?_)
      · ((conv=>whnf);repeat((first|refine Ct ‹_› ?_|refine Cf ‹_› ?_|refine Ct rfl ?_|refine Cf rfl ?_|refine Bi rfl ?_|refine Bz rfl ?_|refine Lr ?_);conv=>whnf))
        rw [← h3, g5]
        exact ⟨rfl, rfl, rfl⟩
      · ((conv=>whnf);repeat((first|refine Ct ‹_› ?_|refine Cf ‹_› ?_|refine Ct rfl ?_|refine Cf rfl ?_|refine Bi rfl ?_|refine Bz rfl ?_|refine Lr ?_);conv=>whnf))
        (refine CallQ_some (F_mRoad b.m h.gb.wh h.gb.ok.m u.at' d hat.1 (by omega) h1 (by omega)) ?_ ?_ ?_; rfl; rfl); ((conv=>whnf);repeat((first|refine Ct ‹_› ?_|refine Cf ‹_› ?_|refine Ct rfl ?_|refine Cf rfl ?_|refine Bi rfl ?_|refine Bz rfl ?_|refine Lr ?_);conv=>whnf))
        rw [← h3, g5]
        exact ⟨rfl, rfl, rfl⟩
    · rw [if_neg (by rw [g4]; simp)] at h3
      ((conv=>whnf);repeat((first|refine Ct ‹_› ?_|refine Cf ‹_› ?_|refine Ct rfl ?_|refine Cf rfl ?_|refine Bi rfl ?_|refine Bz rfl ?_|refine Lr ?_);conv=>whnf))
      refine ⟨n, d + 1, ?_, by omega, by omega, by omega, h3⟩
      rw [wrapI (by omega)]; rfl
  · have hd := of_decide_eq_false g
    obtain rfl : n = 0 := by omega
    rw [zDir] at h3
    ((conv=>whnf);repeat((first|refine Ct ‹_› ?_|refine Cf ‹_› ?_|refine Ct rfl ?_|refine Cf rfl ?_|refine Bi rfl ?_|refine Bz rfl ?_|refine Lr ?_);conv=>whnf))
    rw [← h3]
    exact ⟨rfl, rfl, rfl⟩

theorem F_crossesFreely (m : Map) (ho : m.Ok) (e : Int) : Fun E0 148 [.agg m.cs, vI e] [] (.v (vB (!(m.riv.contains e) || m.roa.contains e))) [] [] := by
  refine Fun_of_xc k148 rfl rfl (fun k q h => by cases h) ?_
  ((conv=>whnf);repeat((first|refine Ct ‹_› ?_|refine Cf ‹_› ?_|refine Ct rfl ?_|refine Cf rfl ?_|refine Bi rfl ?_|refine Bz rfl ?_|refine Lr ?_);conv=>whnf))
  (refine CallQ_some (F_Contains _ _ ho.riv.len) ?_ ?_ ?_; rfl; rfl); ((conv=>whnf);repeat((first|refine Ct ‹_› ?_|refine Cf ‹_› ?_|refine Ct rfl ?_|refine Cf rfl ?_|refine Bi rfl ?_|refine Bz rfl ?_|refine Lr ?_);conv=>whnf))
  refine Cnd_i (fun g5 => ?_) (fun g5 => ?_)
  · ((conv=>whnf);repeat((first|refine Ct ‹_› ?_|refine Cf ‹_› ?_|refine Ct rfl ?_|refine Cf rfl ?_|refine Bi rfl ?_|refine Bz rfl ?_|refine Lr ?_);conv=>whnf))
    rw [g5]
    exact ⟨rfl, rfl, rfl⟩
  · ((conv=>whnf);repeat((first|refine Ct ‹_› ?_|refine Cf ‹_› ?_|refine Ct rfl ?_|refine Cf rfl ?_|refine Bi rfl ?_|refine Bz rfl ?_|refine Lr ?_);conv=>whnf))
    (refine CallQ_some (F_Contains _ _ ho.roa.len) ?_ ?_ ?_; rfl; rfl); ((conv=>whnf);repeat((first|refine Ct ‹_› ?_|refine Cf ‹_› ?_|refine Ct rfl ?_|refine Cf rfl ?_|refine Bi rfl ?_|refine Bz rfl ?_|refine Lr ?_);conv=>whnf))
    rw [g5]
    exact ⟨rfl, rfl, rfl⟩

theorem F_controls (b : Brd) (h : GB b) (u : Unt) (hU : UnOk b u) (i : Int) (i0 : 0 ≤ i) (i1 : i < b.m.ter.length) :
    Fun E0 133 [.agg b.cs, .agg u.cs, vI i] [] (.v (vB (zx b u i))) [] [] := by
  have hk := hU.kind
  have hm := h.wh.mul
  have hn := h.n
  refine Fun_of_xc k133 rfl rfl (fun k q h => by cases h) ?_
  ((conv=>whnf);repeat((first|refine Ct ‹_› ?_|refine Cf ‹_› ?_|refine Ct rfl ?_|refine Cf rfl ?_|refine Bi rfl ?_|refine Bz rfl ?_|refine Lr ?_);conv=>whnf))
  refine Cnd_i (fun g1 => ?_) (fun g1 => ?_)
  · ((conv=>whnf);repeat((first|refine Ct ‹_› ?_|refine Cf ‹_› ?_|refine Ct rfl ?_|refine Cf rfl ?_|refine Bi rfl ?_|refine Bz rfl ?_|refine Lr ?_);conv=>whnf))
    rw [zx, if_pos g1]
    exact ⟨rfl, rfl, rfl⟩
  have e1 : ¬ decide (u.at' < 0) = true := by rw [g1]; simp
  have ha := of_decide_eq_false g1
  have hat : 0 ≤ u.at' ∧ u.at' < b.m.ter.length := by have := hU.at'; omega
  ((conv=>whnf);repeat((first|refine Ct ‹_› ?_|refine Cf ‹_› ?_|refine Ct rfl ?_|refine Cf rfl ?_|refine Bi rfl ?_|refine Bz rfl ?_|refine Lr ?_);conv=>whnf))
  refine Bnd_i (⟨hk.1, hk.2⟩) ?_; ((conv=>whnf);repeat((first|refine Ct ‹_› ?_|refine Cf ‹_› ?_|refine Ct rfl ?_|refine Cf rfl ?_|refine Bi rfl ?_|refine Bz rfl ?_|refine Lr ?_);conv=>whnf))
  refine Cnd_i (fun g2 => ?_) (fun g2 => ?_)
  · ((conv=>whnf);repeat((first|refine Ct ‹_› ?_|refine Cf ‹_› ?_|refine Ct rfl ?_|refine Cf rfl ?_|refine Bi rfl ?_|refine Bz rfl ?_|refine Lr ?_);conv=>whnf))
    have e2 : (b.r.knd.getD u.kind.toNat Knd.d).zone = false := by rwa [Bool.not_eq_true'] at g2
    rw [zx, if_neg e1, e2]
    exact ⟨rfl, rfl, rfl⟩
  have e2 : (b.r.knd.getD u.kind.toNat Knd.d).zone = true := by rwa [Bool.not_eq_false'] at g2
  ((conv=>whnf);repeat((first|refine Ct ‹_› ?_|refine Cf ‹_› ?_|refine Ct rfl ?_|refine Cf rfl ?_|refine Bi rfl ?_|refine Bz rfl ?_|refine Lr ?_);conv=>whnf))
  (refine CallQ_some (F_enterCost b h u.kind i i0 i1 hk.1 hk.2) ?_ ?_ ?_; rfl; rfl); ((conv=>whnf);repeat((first|refine Ct ‹_› ?_|refine Cf ‹_› ?_|refine Ct rfl ?_|refine Cf rfl ?_|refine Bi rfl ?_|refine Bz rfl ?_|refine Lr ?_);conv=>whnf))
  refine Cnd_i (fun g3 => ?_) (fun g3 => ?_)
  · ((conv=>whnf);repeat((first|refine Ct ‹_› ?_|refine Cf ‹_› ?_|refine Ct rfl ?_|refine Cf rfl ?_|refine Bi rfl ?_|refine Bz rfl ?_|refine Lr ?_);conv=>whnf))
    rw [zx, if_neg e1, if_pos e2, if_pos g3]
    exact ⟨rfl, rfl, rfl⟩
  ((conv=>whnf);repeat((first|refine Ct ‹_› ?_|refine Cf ‹_› ?_|refine Ct rfl ?_|refine Cf rfl ?_|refine Bi rfl ?_|refine Bz rfl ?_|refine Lr ?_);conv=>whnf))
  rw [zx, if_neg e1, if_pos e2, if_neg (by rw [g3]; simp)]
  refine WLoop_v ⟨[2, 3, 4, 30], [3, 4], []⟩ (fun (d : Int) => hdS 51 [(2, .v (vI i)), (3, .v (.one (.box 3 0))), (4, .v (.one (.box 4 0))), (30, .v (vI d))] [(3, b.cs), (4, u.cs)] [])
    (fun n d => 0 ≤ d ∧ d + n = 6 ∧ zDir b.m u.at' i n d = zDir b.m u.at' i 6 0) 6 0 rfl ⟨by omega, by omega, rfl⟩ ?_
  rintro n d ⟨h1, h2, h3⟩
  ((conv=>whnf);repeat((first|refine Ct ‹_› ?_|refine Cf ‹_› ?_|refine Ct rfl ?_|refine Cf rfl ?_|refine Bi rfl ?_|refine Bz rfl ?_|refine Lr ?_);conv=>whnf))
  refine Cnd_i (fun g => ?_) (fun g => ?_)
  · have hd := of_decide_eq_true g
    obtain ⟨n, rfl⟩ : ∃ n', n = n' + 1 := ⟨n - 1, by omega⟩
    rw [zDir] at h3
    ((conv=>whnf);repeat((first|refine Ct ‹_› ?_|refine Cf ‹_› ?_|refine Ct rfl ?_|refine Cf rfl ?_|refine Bi rfl ?_|refine Bz rfl ?_|refine Lr ?_);conv=>whnf))
    (refine CallQ_some (F_nextTo b.m h.wh u.at' d hat.1 (by omega) h1 (by omega)) ?_ ?_ ?_; rfl; rfl); ((conv=>whnf);repeat((first|refine Ct ‹_› ?_|refine Cf ‹_› ?_|refine Ct rfl ?_|refine Cf rfl ?_|refine Bi rfl ?_|refine Bz rfl ?_|refine Lr ?_);conv=>whnf))
    refine Cnd_i (fun g4 => ?_) (fun g4 => ?_)
    · rw [if_pos g4] at h3
      have e4 : nx b.m u.at' d = i := by simpa using g4
      ((conv=>whnf);repeat((first|refine Ct ‹_› ?_|refine Cf ‹_› ?_|refine Ct rfl ?_|refine Cf rfl ?_|refine Bi rfl ?_|refine Bz rfl ?_|refine Lr ?_);conv=>whnf))
      (refine CallQ_some (F_edgeOf b.m h.wh u.at' d hat.1 (by omega) h1 (by omega) (by omega)) ?_ ?_ ?_; rfl; rfl); ((conv=>whnf);repeat((first|refine Ct ‹_› ?_|refine Cf ‹_› ?_|refine Ct rfl ?_|refine Cf rfl ?_|refine Bi rfl ?_|refine Bz rfl ?_|refine Lr ?_);conv=>whnf))
      (refine CallQ_some (F_crossesFreely b.m h.ok.m _) ?_ ?_ ?_; rfl; rfl); ((conv=>whnf);repeat((first|refine Ct ‹_› ?_|refine Cf ‹_› ?_|refine Ct rfl ?_|refine Cf rfl ?_|refine Bi rfl ?_|refine Bz rfl ?_|refine Lr ?_);conv=>whnf))
      rw [← h3]
      exact ⟨rfl, rfl, rfl⟩
    · rw [if_neg (by rw [g4]; simp)] at h3
      ((conv=>whnf);repeat((first|refine Ct ‹_› ?_|refine Cf ‹_› ?_|refine Ct rfl ?_|refine Cf rfl ?_|refine Bi rfl ?_|refine Bz rfl ?_|refine Lr ?_);conv=>whnf))
      refine ⟨n, d + 1, ?_, by omega, by omega, by omega, h3⟩
      rw [wrapI (by omega)]; rfl
  · have hd := of_decide_eq_false g
    obtain rfl : n = 0 := by omega
    rw [zDir] at h3
    ((conv=>whnf);repeat((first|refine Ct ‹_› ?_|refine Cf ‹_› ?_|refine Ct rfl ?_|refine Cf rfl ?_|refine Bi rfl ?_|refine Bz rfl ?_|refine Lr ?_);conv=>whnf))
    rw [← h3]
    exact ⟨rfl, rfl, rfl⟩

def zS (b : Brd) (side i : Int) (u : Unt) : Bool := u.side == side && zx b u i

def zn (b : Brd) (s : Stt) (side i : Int) : Bool := s.un.any (zS b side i)

theorem F_zSources (b : Brd) (s : Stt) (h : StOk b s) (side i : Int) (i0 : 0 ≤ i) (i1 : i < b.m.ter.length) :
    Fun E0 147 [.agg b.cs, .agg s.cs, vI side, vI i] [] (.v (.one (.own 0 (selU (zS b side i) s.un s.un.length).length))) [(0, rwI (selU (zS b side i) s.un s.un.length))] [] := by
  have hl := h.len
  refine Fun_of_xc k147 rfl rfl (nrC (rwI_no _) nrN) ?_
  ((conv=>whnf);repeat((first|refine Ct ‹_› ?_|refine Cf ‹_› ?_|refine Ct rfl ?_|refine Cf rfl ?_|refine Bi rfl ?_|refine Bz rfl ?_|refine Lr ?_);conv=>whnf))
  refine Rw_i (rwI []) (rwI_nil _) ?_
  ((conv=>whnf);repeat((first|refine Ct ‹_› ?_|refine Cf ‹_› ?_|refine Ct rfl ?_|refine Cf rfl ?_|refine Bi rfl ?_|refine Bz rfl ?_|refine Lr ?_);conv=>whnf))
  refine Rw_i (rwI []) (rwI_nil _) ?_
  ((conv=>whnf);repeat((first|refine Ct ‹_› ?_|refine Cf ‹_› ?_|refine Ct rfl ?_|refine Cf rfl ?_|refine Bi rfl ?_|refine Bz rfl ?_|refine Lr ?_);conv=>whnf))
  refine WLoop_v2 ⟨[2, 3, 4, 5, 9, 13, 14, 15], [4, 5], []⟩ (fun (t : Int) (out : List Int) => hdS 37 [(2, .v (vI side)), (3, .v (vI i)), (4, .v (.one (.box 4 0))), (5, .v (.one (.box 5 0))), (9, .v (.one (.own (vkey 9) out.length))), (13, .v (.one (roU s.un))), (14, .v (vI s.un.length)), (15, .v (vI t))] [(4, b.cs), (5, s.cs)] [(vkey 9, rwI out)])
    (fun n t out => 0 ≤ t ∧ t + n = s.un.length ∧ out = selU (zS b side i) s.un t.toNat) s.un.length 0 [] rfl ⟨by omega, by omega, rfl⟩ ?_
  rintro n t out ⟨h1, h2, h3⟩
  have hle := selU_le (zS b side i) s.un t.toNat
  rw [← h3] at hle
  have hnx : selU (zS b side i) s.un (t + 1).toNat = if zS b side i (s.un.getD t.toNat Unt.d) = true then out ++ [t] else out := by
    rw [show (t + 1).toNat = t.toNat + 1 by omega, selU, ← h3, show ((t.toNat : Nat) : Int) = t by omega]
  ((conv=>whnf);repeat((first|refine Ct ‹_› ?_|refine Cf ‹_› ?_|refine Ct rfl ?_|refine Cf rfl ?_|refine Bi rfl ?_|refine Bz rfl ?_|refine Lr ?_);conv=>whnf))
  refine Cnd_i (fun g => ?_) (fun g => ?_)
  · have ht := of_decide_eq_true g
    ((conv=>whnf);repeat((first|refine Ct ‹_› ?_|refine Cf ‹_› ?_|refine Ct rfl ?_|refine Cf rfl ?_|refine Bi rfl ?_|refine Bz rfl ?_|refine Lr ?_);conv=>whnf))
    refine Bnd_i (⟨h1, ht⟩) ?_; ((conv=>whnf);repeat((first|refine Ct ‹_› ?_|refine Cf ‹_› ?_|refine Ct rfl ?_|refine Cf rfl ?_|refine Bi rfl ?_|refine Bz rfl ?_|refine Lr ?_);conv=>whnf))
    refine Cnd_i (fun g2 => ?_) (fun g2 => ?_)
    · ((conv=>whnf);repeat((first|refine Ct ‹_› ?_|refine Cf ‹_› ?_|refine Ct rfl ?_|refine Cf rfl ?_|refine Bi rfl ?_|refine Bz rfl ?_|refine Lr ?_);conv=>whnf))
      (refine CallQ_some (F_zExerts b s h t i h1 ht i0 i1) ?_ ?_ ?_; rfl; rfl); ((conv=>whnf);repeat((first|refine Ct ‹_› ?_|refine Cf ‹_› ?_|refine Ct rfl ?_|refine Cf rfl ?_|refine Bi rfl ?_|refine Bz rfl ?_|refine Lr ?_);conv=>whnf))
      refine Cnd_i (fun g3 => ?_) (fun g3 => ?_)
      · ((conv=>whnf);repeat((first|refine Ct ‹_› ?_|refine Cf ‹_› ?_|refine Ct rfl ?_|refine Cf rfl ?_|refine Bi rfl ?_|refine Bz rfl ?_|refine Lr ?_);conv=>whnf))
        refine Rw_self ?_
        ((conv=>whnf);repeat((first|refine Ct ‹_› ?_|refine Cf ‹_› ?_|refine Ct rfl ?_|refine Cf rfl ?_|refine Bi rfl ?_|refine Bz rfl ?_|refine Lr ?_);conv=>whnf))
        refine Bnd_i ?_ ?_
        · show out.length + 1 < _
          omega
        ((conv=>whnf);repeat((first|refine Ct ‹_› ?_|refine Cf ‹_› ?_|refine Ct rfl ?_|refine Cf rfl ?_|refine Bi rfl ?_|refine Bz rfl ?_|refine Lr ?_);conv=>whnf))
        refine Rw_i (rwI (out ++ [t])) (rwI_app _ _ _ rfl) ?_
        ((conv=>whnf);repeat((first|refine Ct ‹_› ?_|refine Cf ‹_› ?_|refine Ct rfl ?_|refine Cf rfl ?_|refine Bi rfl ?_|refine Bz rfl ?_|refine Lr ?_);conv=>whnf))
        rw [if_pos (by rw [zS, g2, g3]; rfl)] at hnx
        refine ⟨n - 1, t + 1, out ++ [t], ?_, by omega, by omega, by omega, hnx.symm⟩
        rw [wrapI (by omega)]; rfl
      · ((conv=>whnf);repeat((first|refine Ct ‹_› ?_|refine Cf ‹_› ?_|refine Ct rfl ?_|refine Cf rfl ?_|refine Bi rfl ?_|refine Bz rfl ?_|refine Lr ?_);conv=>whnf))
        rw [if_neg (by rw [zS, g2, g3]; simp)] at hnx
        refine ⟨n - 1, t + 1, out, ?_, by omega, by omega, by omega, hnx.symm⟩
        rw [wrapI (by omega)]; rfl
    · ((conv=>whnf);repeat((first|refine Ct ‹_› ?_|refine Cf ‹_› ?_|refine Ct rfl ?_|refine Cf rfl ?_|refine Bi rfl ?_|refine Bz rfl ?_|refine Lr ?_);conv=>whnf))
      rw [if_neg (by rw [zS, g2]; simp)] at hnx
      refine ⟨n - 1, t + 1, out, ?_, by omega, by omega, by omega, hnx.symm⟩
      rw [wrapI (by omega)]; rfl
  · have ht := of_decide_eq_false g
    ((conv=>whnf);repeat((first|refine Ct ‹_› ?_|refine Cf ‹_› ?_|refine Ct rfl ?_|refine Cf rfl ?_|refine Bi rfl ?_|refine Bz rfl ?_|refine Lr ?_);conv=>whnf))
    rw [h3, show t.toNat = s.un.length by omega]
    exact ⟨rfl, rfl, rfl⟩

theorem selU_any (q : Unt → Bool) (us : List Unt) : decide (((selU q us us.length).length : Int) > 0) = us.any q := by
  have key : ∀ n, 0 < (selU q us n).length ↔ ∃ k, k < n ∧ q (us.getD k Unt.d) = true := by
    intro n
    induction n with
    | zero => simp [selU]
    | succ n ih =>
      rw [selU]
      split
      · rename_i e
        refine ⟨fun _ => ⟨n, by omega, e⟩, fun _ => by simp⟩
      · rename_i e
        rw [ih]
        constructor
        · rintro ⟨k, h1, h2⟩; exact ⟨k, by omega, h2⟩
        · rintro ⟨k, h1, h2⟩
          by_cases hk : k = n
          · subst hk; exact absurd h2 e
          · exact ⟨k, by omega, h2⟩
  have k2 : us.any q = true ↔ ∃ k, k < us.length ∧ q (us.getD k Unt.d) = true := by
    rw [List.any_eq_true]
    constructor
    · rintro ⟨x, hx, hq⟩
      obtain ⟨k, hk, rfl⟩ := List.mem_iff_getElem.1 hx
      exact ⟨k, hk, by simpa [hk] using hq⟩
    · rintro ⟨k, hk, hq⟩
      exact ⟨us[k], List.getElem_mem hk, by simpa [hk] using hq⟩
  rw [Bool.eq_iff_iff, decide_eq_true_eq, k2, ← key]
  omega

theorem F_zIn (b : Brd) (s : Stt) (h : StOk b s) (i side : Int) (i0 : 0 ≤ i) (i1 : i < b.m.ter.length) :
    Fun E0 132 [.agg b.cs, .agg s.cs, vI i, vI side] [] (.v (vB (zn b s side i))) [] [] := by
  refine Fun_of_xc k132 rfl rfl (fun k q h => by cases h) ?_
  ((conv=>whnf);repeat((first|refine Ct ‹_› ?_|refine Cf ‹_› ?_|refine Ct rfl ?_|refine Cf rfl ?_|refine Bi rfl ?_|refine Bz rfl ?_|refine Lr ?_);conv=>whnf))
  (refine CallQ_some (F_zSources b s h side i i0 i1) ?_ ?_ ?_; rfl; rfl); ((conv=>whnf);repeat((first|refine Ct ‹_› ?_|refine Cf ‹_› ?_|refine Ct rfl ?_|refine Cf rfl ?_|refine Bi rfl ?_|refine Bz rfl ?_|refine Lr ?_);conv=>whnf))
  rw [zn, ← selU_any]
  exact ⟨rfl, rfl, rfl⟩

theorem F_inZone (b : Brd) (s : Stt) (h : StOk b s) (side i : Int) (i0 : 0 ≤ i) (i1 : i < b.m.ter.length) :
    Fun E0 115 [.agg b.cs, .agg s.cs, vI side, vI i] [] (.v (vB (zn b s side i))) [] [] := by
  have hl := h.len
  refine Fun_of_xc k115 rfl rfl (fun k q h => by cases h) ?_
  ((conv=>whnf);repeat((first|refine Ct ‹_› ?_|refine Cf ‹_› ?_|refine Ct rfl ?_|refine Cf rfl ?_|refine Bi rfl ?_|refine Bz rfl ?_|refine Lr ?_);conv=>whnf))
  refine WLoop_v ⟨[2, 3, 4, 12, 13, 14], [4], []⟩ (fun (t : Int) => hdS 29 [(2, .v (vI side)), (3, .v (vI i)), (4, .v (.one (.box 4 0))), (12, .v (.one (roU s.un))), (13, .v (vI s.un.length)), (14, .v (vI t))] [(4, b.cs)] [])
    (fun n t => 0 ≤ t ∧ t + n = s.un.length ∧ (s.un.drop t.toNat).any (zS b side i) = zn b s side i) s.un.length 0 rfl ⟨by omega, by omega, rfl⟩ ?_
  rintro n t ⟨h1, h2, h3⟩
  ((conv=>whnf);repeat((first|refine Ct ‹_› ?_|refine Cf ‹_› ?_|refine Ct rfl ?_|refine Cf rfl ?_|refine Bi rfl ?_|refine Bz rfl ?_|refine Lr ?_);conv=>whnf))
  refine Cnd_i (fun g => ?_) (fun g => ?_)
  · have ht := of_decide_eq_true g
    have hU := h.un _ (getD_memT (d := Unt.d) h1 ht)
    rw [drop_cons (d := Unt.d) h1 ht, List.any_cons] at h3
    ((conv=>whnf);repeat((first|refine Ct ‹_› ?_|refine Cf ‹_› ?_|refine Ct rfl ?_|refine Cf rfl ?_|refine Bi rfl ?_|refine Bz rfl ?_|refine Lr ?_);conv=>whnf))
    refine Bnd_i (⟨h1, ht⟩) ?_; ((conv=>whnf);repeat((first|refine Ct ‹_› ?_|refine Cf ‹_› ?_|refine Ct rfl ?_|refine Cf rfl ?_|refine Bi rfl ?_|refine Bz rfl ?_|refine Lr ?_);conv=>whnf))
    refine Cnd_i (fun g2 => ?_) (fun g2 => ?_)
    · ((conv=>whnf);repeat((first|refine Ct ‹_› ?_|refine Cf ‹_› ?_|refine Ct rfl ?_|refine Cf rfl ?_|refine Bi rfl ?_|refine Bz rfl ?_|refine Lr ?_);conv=>whnf))
      (refine CallQ_some (F_controls b h.gb (s.un.getD t.toNat Unt.d) hU i i0 i1) ?_ ?_ ?_; rfl; rfl); ((conv=>whnf);repeat((first|refine Ct ‹_› ?_|refine Cf ‹_› ?_|refine Ct rfl ?_|refine Cf rfl ?_|refine Bi rfl ?_|refine Bz rfl ?_|refine Lr ?_);conv=>whnf))
      refine Cnd_i (fun g3 => ?_) (fun g3 => ?_)
      · ((conv=>whnf);repeat((first|refine Ct ‹_› ?_|refine Cf ‹_› ?_|refine Ct rfl ?_|refine Cf rfl ?_|refine Bi rfl ?_|refine Bz rfl ?_|refine Lr ?_);conv=>whnf))
        rw [← h3, zS, g2, g3]
        exact ⟨rfl, rfl, rfl⟩
      · ((conv=>whnf);repeat((first|refine Ct ‹_› ?_|refine Cf ‹_› ?_|refine Ct rfl ?_|refine Cf rfl ?_|refine Bi rfl ?_|refine Bz rfl ?_|refine Lr ?_);conv=>whnf))
        rw [zS, g2, g3] at h3
        refine ⟨n - 1, t + 1, ?_, by omega, by omega, by omega, h3⟩
        rw [wrapI (by omega)]; rfl
    · ((conv=>whnf);repeat((first|refine Ct ‹_› ?_|refine Cf ‹_› ?_|refine Ct rfl ?_|refine Cf rfl ?_|refine Bi rfl ?_|refine Bz rfl ?_|refine Lr ?_);conv=>whnf))
      rw [zS, g2] at h3
      refine ⟨n - 1, t + 1, ?_, by omega, by omega, by omega, h3⟩
      rw [wrapI (by omega)]; rfl
  · have ht := of_decide_eq_false g
    rw [show t.toNat = s.un.length by omega, List.drop_length] at h3
    ((conv=>whnf);repeat((first|refine Ct ‹_› ?_|refine Cf ‹_› ?_|refine Ct rfl ?_|refine Cf rfl ?_|refine Bi rfl ?_|refine Bz rfl ?_|refine Lr ?_);conv=>whnf))
    rw [← h3]
    exact ⟨rfl, rfl, rfl⟩

noncomputable def okHas (b : Brd) (s : Stt) (t : Int) : Bool := okBrd b && okSt b s && In t 0 (s.un.length - 1)

theorem StOk.of_has {b : Brd} {s : Stt} {t : Int} (ho : b.Ok) (h : okHas b s t = true) : StOk b s ∧ 0 ≤ t ∧ t < s.un.length := by
  simp only [okHas] at h
  rw [Bool.and_eq_true] at h
  have g := StOk.of ho h.1
  have := of_decide_eq_true h.2
  exact ⟨g, by omega, by omega⟩

theorem F_sHas (b : Brd) (ho : b.Ok) (s : Stt) (hs : s.Ok) (t : Int) : Fun E0 84 [.agg b.cs, .agg s.cs, vI t] [] (.v (vB (okHas b s t))) [] [] := by
  have hln : s.un.length ≤ 9223372036854775807 := hs.lun
  refine Fun_of_xc k84 rfl rfl (fun k q h => by cases h) ?_
  ((conv=>whnf);repeat((first|refine Ct ‹_› ?_|refine Cf ‹_› ?_|refine Ct rfl ?_|refine Cf rfl ?_|refine Bi rfl ?_|refine Bz rfl ?_|refine Lr ?_);conv=>whnf))
  (refine CallQ_some (F_sGood b ho s hs) ?_ ?_ ?_; rfl; rfl); ((conv=>whnf);repeat((first|refine Ct ‹_› ?_|refine Cf ‹_› ?_|refine Ct rfl ?_|refine Cf rfl ?_|refine Bi rfl ?_|refine Bz rfl ?_|refine Lr ?_);conv=>whnf))
  refine Cnd_i (fun g => ?_) (fun g => ?_)
  · ((conv=>whnf);repeat((first|refine Ct ‹_› ?_|refine Cf ‹_› ?_|refine Ct rfl ?_|refine Cf rfl ?_|refine Bi rfl ?_|refine Bz rfl ?_|refine Lr ?_);conv=>whnf))
    rw [wrapI (n := (s.un.length : Int) - 1) (by omega)]
    (refine CallQ_some (F_l1In _ _ _) ?_ ?_ ?_; rfl; rfl); ((conv=>whnf);repeat((first|refine Ct ‹_› ?_|refine Cf ‹_› ?_|refine Ct rfl ?_|refine Cf rfl ?_|refine Bi rfl ?_|refine Bz rfl ?_|refine Lr ?_);conv=>whnf))
    rw [okHas, g]
    exact ⟨rfl, rfl, rfl⟩
  · ((conv=>whnf);repeat((first|refine Ct ‹_› ?_|refine Cf ‹_› ?_|refine Ct rfl ?_|refine Cf rfl ?_|refine Bi rfl ?_|refine Bz rfl ?_|refine Lr ?_);conv=>whnf))
    rw [okHas, g]
    exact ⟨rfl, rfl, rfl⟩

theorem F_hasUnit (b : Brd) (ho : b.Ok) (s : Stt) (hs : s.Ok) (t : Int) : Fun E0 87 [.agg b.cs, .agg s.cs, vI t] [] (.v (vB (okHas b s t))) [] [] := by
  have hln : s.un.length ≤ 9223372036854775807 := hs.lun
  refine Fun_of_xc k87 rfl rfl (fun k q h => by cases h) ?_
  ((conv=>whnf);repeat((first|refine Ct ‹_› ?_|refine Cf ‹_› ?_|refine Ct rfl ?_|refine Cf rfl ?_|refine Bi rfl ?_|refine Bz rfl ?_|refine Lr ?_);conv=>whnf))
  (refine CallQ_some (F_fits b ho s hs) ?_ ?_ ?_; rfl; rfl); ((conv=>whnf);repeat((first|refine Ct ‹_› ?_|refine Cf ‹_› ?_|refine Ct rfl ?_|refine Cf rfl ?_|refine Bi rfl ?_|refine Bz rfl ?_|refine Lr ?_);conv=>whnf))
  refine Cnd_i (fun g => ?_) (fun g => ?_)
  · ((conv=>whnf);repeat((first|refine Ct ‹_› ?_|refine Cf ‹_› ?_|refine Ct rfl ?_|refine Cf rfl ?_|refine Bi rfl ?_|refine Bz rfl ?_|refine Lr ?_);conv=>whnf))
    (refine CallQ_some (F_isIndex _ _ (by unfold i64; omega)) ?_ ?_ ?_; rfl; rfl); ((conv=>whnf);repeat((first|refine Ct ‹_› ?_|refine Cf ‹_› ?_|refine Ct rfl ?_|refine Cf rfl ?_|refine Bi rfl ?_|refine Bz rfl ?_|refine Lr ?_);conv=>whnf))
    rw [okHas, g]
    exact ⟨rfl, rfl, rfl⟩
  · ((conv=>whnf);repeat((first|refine Ct ‹_› ?_|refine Cf ‹_› ?_|refine Ct rfl ?_|refine Cf rfl ?_|refine Bi rfl ?_|refine Bz rfl ?_|refine Lr ?_);conv=>whnf))
    rw [okHas, g]
    exact ⟨rfl, rfl, rfl⟩

theorem StOk.own {b : Brd} {s : Stt} (h : StOk b s) (i : Int) : ownR i s.un = -1 ∨ ownR i s.un = 0 ∨ ownR i s.un = 1 := by
  rcases ownR_spec i s.un with ⟨_, e⟩ | ⟨k, h1, _, h3⟩
  · exact .inl e
  · have := h.side h1
    omega

/-- may the supply of a side not go over a place -/
def jbk (b : Brd) (s : Stt) (side i : Int) : Bool := if (ownR i s.un == 1 - side) = true then true else if decide (ownR i s.un < 0) = true then zn b s (1 - side) i else false

theorem F_jBlocked (b : Brd) (s : Stt) (h : StOk b s) (side i : Int) (hd : side = 0 ∨ side = 1) (i0 : 0 ≤ i) (i1 : i < b.m.ter.length) :
    Fun E0 109 [.agg b.cs, .agg s.cs, vI side, vI i] [] (.v (vB (jbk b s side i))) [] [] := by
  have hl := h.len
  refine Fun_of_xc k109 rfl rfl (fun k q h => by cases h) ?_
  ((conv=>whnf);repeat((first|refine Ct ‹_› ?_|refine Cf ‹_› ?_|refine Ct rfl ?_|refine Cf rfl ?_|refine Bi rfl ?_|refine Bz rfl ?_|refine Lr ?_);conv=>whnf))
  (refine CallQ_some (F_sOwner s (by omega) i) ?_ ?_ ?_; rfl; rfl); ((conv=>whnf);repeat((first|refine Ct ‹_› ?_|refine Cf ‹_› ?_|refine Ct rfl ?_|refine Cf rfl ?_|refine Bi rfl ?_|refine Bz rfl ?_|refine Lr ?_);conv=>whnf))
  rw [wrapI (n := 1 - side) (by omega)]
  refine Cnd_i (fun g => ?_) (fun g => ?_)
  · ((conv=>whnf);repeat((first|refine Ct ‹_› ?_|refine Cf ‹_› ?_|refine Ct rfl ?_|refine Cf rfl ?_|refine Bi rfl ?_|refine Bz rfl ?_|refine Lr ?_);conv=>whnf))
    rw [jbk, if_pos g]
    exact ⟨rfl, rfl, rfl⟩
  ((conv=>whnf);repeat((first|refine Ct ‹_› ?_|refine Cf ‹_› ?_|refine Ct rfl ?_|refine Cf rfl ?_|refine Bi rfl ?_|refine Bz rfl ?_|refine Lr ?_);conv=>whnf))
  refine Cnd_i (fun g2 => ?_) (fun g2 => ?_)
  · ((conv=>whnf);repeat((first|refine Ct ‹_› ?_|refine Cf ‹_› ?_|refine Ct rfl ?_|refine Cf rfl ?_|refine Bi rfl ?_|refine Bz rfl ?_|refine Lr ?_);conv=>whnf))
    rw [wrapI (n := 1 - side) (by omega)]
    (refine CallQ_some (F_zIn b s h i (1 - side) i0 i1) ?_ ?_ ?_; rfl; rfl); ((conv=>whnf);repeat((first|refine Ct ‹_› ?_|refine Cf ‹_› ?_|refine Ct rfl ?_|refine Cf rfl ?_|refine Bi rfl ?_|refine Bz rfl ?_|refine Lr ?_);conv=>whnf))
    rw [jbk, if_neg (by rw [g]; simp), if_pos g2]
    exact ⟨rfl, rfl, rfl⟩
  · ((conv=>whnf);repeat((first|refine Ct ‹_› ?_|refine Cf ‹_› ?_|refine Ct rfl ?_|refine Cf rfl ?_|refine Bi rfl ?_|refine Bz rfl ?_|refine Lr ?_);conv=>whnf))
    rw [jbk, if_neg (by rw [g]; simp), if_neg (by rw [g2]; simp)]
    exact ⟨rfl, rfl, rfl⟩

theorem F_blockedFor (b : Brd) (s : Stt) (h : StOk b s) (side i : Int) (hd : side = 0 ∨ side = 1) (i0 : 0 ≤ i) (i1 : i < b.m.ter.length) :
    Fun E0 89 [.agg b.cs, .agg s.cs, vI side, vI i] [] (.v (vB (jbk b s side i))) [] [] := by
  have hl := h.len
  have how := h.own i
  refine Fun_of_xc k89 rfl rfl (fun k q h => by cases h) ?_
  ((conv=>whnf);repeat((first|refine Ct ‹_› ?_|refine Cf ‹_› ?_|refine Ct rfl ?_|refine Cf rfl ?_|refine Bi rfl ?_|refine Bz rfl ?_|refine Lr ?_);conv=>whnf))
  (refine CallQ_some (F_ownerOf s (by omega) i) ?_ ?_ ?_; rfl; rfl); ((conv=>whnf);repeat((first|refine Ct ‹_› ?_|refine Cf ‹_› ?_|refine Ct rfl ?_|refine Cf rfl ?_|refine Bi rfl ?_|refine Bz rfl ?_|refine Lr ?_);conv=>whnf))
  rw [wrapI (n := 1 - side) (by omega)]
  refine Cnd_i (fun g => ?_) (fun g => ?_)
  · ((conv=>whnf);repeat((first|refine Ct ‹_› ?_|refine Cf ‹_› ?_|refine Ct rfl ?_|refine Cf rfl ?_|refine Bi rfl ?_|refine Bz rfl ?_|refine Lr ?_);conv=>whnf))
    rw [jbk, if_pos g]
    exact ⟨rfl, rfl, rfl⟩
  have g1 : ¬ ownR i s.un = 1 - side := beq_eq_false_iff_ne.1 g
  ((conv=>whnf);repeat((first|refine Ct ‹_› ?_|refine Cf ‹_› ?_|refine Ct rfl ?_|refine Cf rfl ?_|refine Bi rfl ?_|refine Bz rfl ?_|refine Lr ?_);conv=>whnf))
  refine Cnd_i (fun g2 => ?_) (fun g2 => ?_)
  · have g3 : ownR i s.un ≠ side := bne_iff_ne.1 g2
    ((conv=>whnf);repeat((first|refine Ct ‹_› ?_|refine Cf ‹_› ?_|refine Ct rfl ?_|refine Cf rfl ?_|refine Bi rfl ?_|refine Bz rfl ?_|refine Lr ?_);conv=>whnf))
    rw [wrapI (n := 1 - side) (by omega)]
    (refine CallQ_some (F_inZone b s h (1 - side) i i0 i1) ?_ ?_ ?_; rfl; rfl); ((conv=>whnf);repeat((first|refine Ct ‹_› ?_|refine Cf ‹_› ?_|refine Ct rfl ?_|refine Cf rfl ?_|refine Bi rfl ?_|refine Bz rfl ?_|refine Lr ?_);conv=>whnf))
    rw [jbk, if_neg (by rw [g]; simp), if_pos (decide_eq_true (by omega))]
    exact ⟨rfl, rfl, rfl⟩
  · have g3 : ownR i s.un = side := by simpa using g2
    ((conv=>whnf);repeat((first|refine Ct ‹_› ?_|refine Cf ‹_› ?_|refine Ct rfl ?_|refine Cf rfl ?_|refine Bi rfl ?_|refine Bz rfl ?_|refine Lr ?_);conv=>whnf))
    rw [jbk, if_neg (by rw [g]; simp), if_neg (by rw [decide_eq_false (show ¬ ownR i s.un < 0 by omega)]; simp)]
    exact ⟨rfl, rfl, rfl⟩

/-- the neighbours of a place, by the ways d, d + 1, .. -/
def nbL (m : Map) (i : Int) : Nat → Int → List Int
  | 0, _ => []
  | n + 1, d => if decide (nx m i d ≥ 0) = true then nx m i d :: nbL m i n (d + 1) else nbL m i n (d + 1)

theorem nbL_le (m : Map) (i : Int) (n : Nat) (d : Int) : (nbL m i n d).length ≤ n := by
  induction n generalizing d with
  | zero => simp [nbL]
  | succ n ih => 
    unfold nbL
    have := ih (d + 1)
    split
    · rw [List.length_cons]; omega
    · omega

theorem F_neighboursOn (m : Map) (h : WH m) (i : Int) (i0 : 0 ≤ i) (i1 : i ≤ 1000) :
    Fun E0 116 [.agg m.cs, vI i] [] (.v (.one (.own 0 (nbL m i 6 0).length))) [(0, rwI (nbL m i 6 0))] [] := by
  refine Fun_of_xc k116 rfl rfl (nrC (rwI_no _) nrN) ?_
  ((conv=>whnf);repeat((first|refine Ct ‹_› ?_|refine Cf ‹_› ?_|refine Ct rfl ?_|refine Cf rfl ?_|refine Bi rfl ?_|refine Bz rfl ?_|refine Lr ?_);conv=>whnf))
  refine Rw_i (rwI []) (rwI_nil _) ?_
  ((conv=>whnf);repeat((first|refine Ct ‹_› ?_|refine Cf ‹_› ?_|refine Ct rfl ?_|refine Cf rfl ?_|refine Bi rfl ?_|refine Bz rfl ?_|refine Lr ?_);conv=>whnf))
  refine Rw_i (rwI []) (rwI_nil _) ?_
  ((conv=>whnf);repeat((first|refine Ct ‹_› ?_|refine Cf ‹_› ?_|refine Ct rfl ?_|refine Cf rfl ?_|refine Bi rfl ?_|refine Bz rfl ?_|refine Lr ?_);conv=>whnf))
  refine WLoop_v2 ⟨[1, 2, 5, 9], [2], []⟩ (fun (d : Int) (out : List Int) => hdS 24 [(1, .v (vI i)), (2, .v (.one (.box 2 0))), (5, .v (.one (.own (vkey 5) out.length))), (9, .v (vI d))] [(2, m.cs)] [(vkey 5, rwI out)])
    (fun n d out => 0 ≤ d ∧ d + n = 6 ∧ out.length ≤ 6 ∧ out ++ nbL m i n d = nbL m i 6 0) 6 0 [] rfl ⟨by omega, by omega, by simp, rfl⟩ ?_
  rintro n d out ⟨h1, h2, h4, h3⟩
  have hle := nbL_le m i 6 0
  ((conv=>whnf);repeat((first|refine Ct ‹_› ?_|refine Cf ‹_› ?_|refine Ct rfl ?_|refine Cf rfl ?_|refine Bi rfl ?_|refine Bz rfl ?_|refine Lr ?_);conv=>whnf))
  refine Cnd_i (fun g => ?_) (fun g => ?_)
  · have hd := of_decide_eq_true g
    obtain ⟨n, rfl⟩ : ∃ n', n = n' + 1 := ⟨n - 1, by omega⟩
    rw [nbL] at h3
    ((conv=>whnf);repeat((first|refine Ct ‹_› ?_|refine Cf ‹_› ?_|refine Ct rfl ?_|refine Cf rfl ?_|refine Bi rfl ?_|refine Bz rfl ?_|refine Lr ?_);conv=>whnf))
    (refine CallQ_some (F_nextTo m h i d i0 i1 h1 (by omega)) ?_ ?_ ?_; rfl; rfl); ((conv=>whnf);repeat((first|refine Ct ‹_› ?_|refine Cf ‹_› ?_|refine Ct rfl ?_|refine Cf rfl ?_|refine Bi rfl ?_|refine Bz rfl ?_|refine Lr ?_);conv=>whnf))
    refine Cnd_i (fun g4 => ?_) (fun g4 => ?_)
    · rw [if_pos g4] at h3
      ((conv=>whnf);repeat((first|refine Ct ‹_› ?_|refine Cf ‹_› ?_|refine Ct rfl ?_|refine Cf rfl ?_|refine Bi rfl ?_|refine Bz rfl ?_|refine Lr ?_);conv=>whnf))
      refine Rw_self ?_
      ((conv=>whnf);repeat((first|refine Ct ‹_› ?_|refine Cf ‹_› ?_|refine Ct rfl ?_|refine Cf rfl ?_|refine Bi rfl ?_|refine Bz rfl ?_|refine Lr ?_);conv=>whnf))
      refine Bnd_i ?_ ?_
      · show out.length + 1 < _
        omega
      ((conv=>whnf);repeat((first|refine Ct ‹_› ?_|refine Cf ‹_› ?_|refine Ct rfl ?_|refine Cf rfl ?_|refine Bi rfl ?_|refine Bz rfl ?_|refine Lr ?_);conv=>whnf))
      refine Rw_i (rwI (out ++ [nx m i d])) (rwI_app _ _ _ rfl) ?_
      ((conv=>whnf);repeat((first|refine Ct ‹_› ?_|refine Cf ‹_› ?_|refine Ct rfl ?_|refine Cf rfl ?_|refine Bi rfl ?_|refine Bz rfl ?_|refine Lr ?_);conv=>whnf))
      have h5 : out ++ [nx m i d] ++ nbL m i n (d + 1) = nbL m i 6 0 := by rw [← h3]; simp
      refine ⟨n, d + 1, out ++ [nx m i d], ?_, by omega, by omega, by omega, ?_, h5⟩
      · rw [wrapI (by omega)]; rfl
      · have := congrArg List.length h5
        rw [List.length_append] at this
        omega
    · rw [if_neg (by rw [g4]; simp)] at h3
      ((conv=>whnf);repeat((first|refine Ct ‹_› ?_|refine Cf ‹_› ?_|refine Ct rfl ?_|refine Cf rfl ?_|refine Bi rfl ?_|refine Bz rfl ?_|refine Lr ?_);conv=>whnf))
      refine ⟨n, d + 1, out, ?_, by omega, by omega, by omega, h4, h3⟩
      rw [wrapI (by omega)]; rfl
  · have hd := of_decide_eq_false g
    obtain rfl : n = 0 := by omega
    rw [nbL, List.append_nil] at h3
    ((conv=>whnf);repeat((first|refine Ct ‹_› ?_|refine Cf ‹_› ?_|refine Ct rfl ?_|refine Cf rfl ?_|refine Bi rfl ?_|refine Bz rfl ?_|refine Lr ?_);conv=>whnf))
    rw [h3]
    exact ⟨rfl, rfl, rfl⟩

/-- the numbers below n that are so -/
def selN (p : Int → Bool) : Nat → List Int
  | 0 => []
  | n + 1 => if p (n : Int) = true then selN p n ++ [(n : Int)] else selN p n

theorem selN_le (p : Int → Bool) (n : Nat) : (selN p n).length ≤ n := by
  induction n with
  | zero => simp [selN]
  | succ n ih =>
    unfold selN
    split
    · rw [List.length_append]; simp; omega
    · omega

/-- a row of n numbers -/
abbrev rwIn (n : Nat) (L : List Int) : Row := ⟨false, 1, n, fun i _ => cI (L.getD i 0)⟩

theorem rwIn_eq {n : Nat} {L : List Int} (h : L.length = n) : rwI L = rwIn n L := by subst h; rfl

theorem rwIn_set (n : Nat) (L : List Int) (x : Int) (i : Nat) (h : i < L.length) : RowEq ⟨false, 1, n, wrG (fun i _ => cI (L.getD i 0)) i 0 [cI x]⟩ (rwIn n (L.set i x)) := by
  refine ⟨rfl, rfl, rfl, fun i' j _ hj => ?_⟩
  have hj : j < 1 := hj
  obtain rfl : j = 0 := by omega
  show wrG (fun i _ => cI (L.getD i 0)) i 0 [cI x] i' 0 = cI ((L.set i x).getD i' 0)
  rw [getD_set L i x i' h]
  by_cases e : i' = i
  · subst e
    rw [wrG_in (by simp), if_pos rfl]; rfl
  · rw [wrG_out (fun hh => e hh.1), if_neg e]

theorem rwIn_zero (n : Nat) : RowEq (zeroRow false 1 n [cI 0]) (rwIn n (List.replicate n 0)) := by
  refine ⟨rfl, rfl, rfl, fun i j hi hj => ?_⟩
  have hj : j < 1 := hj
  obtain rfl : j = 0 := by omega
  show cI 0 = cI ((List.replicate n (0 : Int)).getD i 0)
  rw [List.getD_eq_getElem?_getD, List.getElem?_replicate]
  split <;> rfl

/-- a row of n truth values -/
abbrev rwBn (n : Nat) (L : List Bool) : Row := ⟨false, 1, n, fun i _ => .bool (L.getD i false)⟩

theorem rwBn_set (n : Nat) (L : List Bool) (x : Bool) (i : Nat) (h : i < L.length) : RowEq ⟨false, 1, n, wrG (fun i _ => .bool (L.getD i false)) i 0 [.bool x]⟩ (rwBn n (L.set i x)) := by
  refine ⟨rfl, rfl, rfl, fun i' j _ hj => ?_⟩
  have hj : j < 1 := hj
  obtain rfl : j = 0 := by omega
  show wrG (fun i _ => .bool (L.getD i false)) i 0 [.bool x] i' 0 = Cell.bool ((L.set i x).getD i' false)
  rw [getD_setB L i x i' h]
  by_cases e : i' = i
  · subst e
    rw [wrG_in (by simp), if_pos rfl]; rfl
  · rw [wrG_out (fun hh => e hh.1), if_neg e]

theorem rwBn_zero (n : Nat) : RowEq (zeroRow false 1 n [.bool false]) (rwBn n (List.replicate n false)) := by
  refine ⟨rfl, rfl, rfl, fun i j hi hj => ?_⟩
  have hj : j < 1 := hj
  obtain rfl : j = 0 := by omega
  show Cell.bool false = Cell.bool ((List.replicate n false).getD i false)
  rw [List.getD_eq_getElem?_getD, List.getElem?_replicate]
  split <;> rfl

/-- y is the best of the first t places: none if -1 -/
def bestI (L : List Int) (D : List Bool) (y t : Int) : Prop :=
  (y = -1 ∧ ∀ j : Nat, (j : Int) < t → D.getD j false = false → L.getD j 0 < 0) ∨
  (0 ≤ y ∧ y < t ∧ D.getD y.toNat false = false ∧ 0 ≤ L.getD y.toNat 0 ∧ ∀ j : Nat, (j : Int) < t → D.getD j false = false → 0 ≤ L.getD j 0 → L.getD y.toNat 0 ≤ L.getD j 0)

theorem bestI.b {L : List Int} {D : List Bool} {y t : Int} (h : bestI L D y t) : y = -1 ∨ 0 ≤ y ∧ y < t := by
  rcases h with h | h
  · exact .inl h.1
  · exact .inr ⟨h.1, h.2.1⟩

theorem all_neg1 {L : List Int} {n : Nat} (hl : L.length = n) (h : ∀ j : Nat, j < n → L.getD j 0 = -1) : L = List.replicate n (-1) := by
  refine list_ext_getD (by simp [hl]) fun j hj => ?_
  rw [h j (by omega)]
  simp [List.getD_eq_getElem?_getD, show j < n by omega]

theorem F_mSizeB (b : Brd) (h : GB b) : Fun E0 75 [.agg b.m.cs] [] (.v (vI b.m.ter.length)) [] [] := by
  rw [h.n]; exact F_mSize b.m h.wh

theorem getD_app {α : Type} (l : List α) (x d : α) (i : Nat) (hi : i < l.length + 1) : (l ++ [x]).getD i d = if i < l.length then l.getD i d else x := by
  rw [List.getD_eq_getElem?_getD, List.getD_eq_getElem?_getD]
  split
  · rename_i h; rw [List.getElem?_append_left h]
  · rename_i h
    rw [List.getElem?_append_right (by omega), show i - l.length = 0 by omega]; rfl

theorem app_get (l i : Nat) (f g : Nat → Nat → Cell) (j : Nat) : (bif Nat.blt i l then f i j else g (i - l) j) = if i < l then f i j else g (i - l) j := by
  by_cases e : i < l
  · have : Nat.blt i l = true := by simpa [Nat.blt_eq] using e
    rw [this, if_pos e]; rfl
  · have : Nat.blt i l = false := by
      rw [Bool.eq_false_iff]; intro h; exact e (by simpa [Nat.blt_eq] using h)
    rw [this, if_neg e]; rfl

structure HxB (q r : Int) : Prop where
  q : 0 ≤ q ∧ q ≤ 9
  r : 0 ≤ r ∧ r ≤ 9

structure PtB (q r n : Int) : Prop where
  n : 1 ≤ n ∧ n ≤ 18
  q : 0 ≤ q ∧ q ≤ 1000
  r : 0 ≤ r ∧ r ≤ 1000

theorem range_succ' {α : Type} (f : Nat → α) (t : Int) (h0 : 0 ≤ t) : (List.range (t + 1).toNat).map f = (List.range t.toNat).map f ++ [f t.toNat] := by
  rw [show (t + 1).toNat = t.toNat + 1 by omega, List.range_succ, List.map_append]; rfl

def okAv (b : Brd) (av : List Int) : Bool := (av.all fun a => In a 0 (b.m.ter.length - 1)) && rising av

/-! ### a place to meet -/
def betM (L L' : List Int) (x y : Int) : Prop := max (L.getD x.toNat 0) (L'.getD x.toNat 0) < max (L.getD y.toNat 0) (L'.getD y.toNat 0) ∨ (max (L.getD x.toNat 0) (L'.getD x.toNat 0) = max (L.getD y.toNat 0) (L'.getD y.toNat 0) ∧ L.getD x.toNat 0 + L'.getD x.toNat 0 < L.getD y.toNat 0 + L'.getD y.toNat 0)

instance (L L' : List Int) (x y : Int) : Decidable (betM L L' x y) := by unfold betM; infer_instance

structure KiOk (b : Brd) (k i : Int) : Prop where
  gb : GB b
  k : 0 ≤ k ∧ k < b.r.knd.length
  i : 0 ≤ i ∧ i < b.m.ter.length

structure KdOk (b : Brd) (k : Int) : Prop where
  gb : GB b
  k : 0 ≤ k ∧ k < b.r.knd.length

abbrev roB (l : List Bool) : Cell := .ro 1 l.length fun i _ => .bool (l.getD i false)

abbrev rwB (l : List Bool) : Row := ⟨false, 1, l.length, fun i _ => .bool (l.getD i false)⟩

theorem rwB_no (l : List Bool) : NoRo (rwB l) := fun _ _ _ _ => rfl

theorem rwB_nil (g : Nat → Nat → Cell) : RowEq ⟨false, 1, 0, g⟩ (rwB []) := ⟨rfl, rfl, rfl, fun i j hi _ => by simp at hi⟩

theorem rwBn_eq {n : Nat} {L : List Bool} (h : L.length = n) : rwB L = rwBn n L := by subst h; rfl

theorem rwB_app (l : List Bool) (x : Bool) (g : Nat → Nat → Cell) (h : g 0 0 = .bool x) : RowEq (appRow (rwB l) 1 g) (rwB (l ++ [x])) := by
  refine ⟨rfl, rfl, by simp [appRow], fun i j hi hj => ?_⟩
  have hj : j < 1 := hj
  obtain rfl : j = 0 := by omega
  have hi : i < l.length + 1 := hi
  show (bif Nat.blt i l.length then Cell.bool (l.getD i false) else g (i - l.length) 0) = Cell.bool ((l ++ [x]).getD i false)
  rw [app_get l.length i (fun i _ => Cell.bool (l.getD i false)) g 0, getD_app l x false i hi]
  split
  · rfl
  · rw [show i - l.length = 0 by omega]; exact h

theorem nbL_iff {m : Map} {i : Int} {n : Nat} {d x : Int} : x ∈ nbL m i n d ↔ 0 ≤ x ∧ ∃ e, d ≤ e ∧ e < d + n ∧ x = nx m i e := by
  induction n generalizing d with
  | zero => simp [nbL]; intro _ e; omega
  | succ n ih =>
    unfold nbL
    have key : (∃ e, d ≤ e ∧ e < d + (n + 1 : Nat) ∧ x = nx m i e) ↔ x = nx m i d ∨ ∃ e, d + 1 ≤ e ∧ e < d + 1 + n ∧ x = nx m i e := by
      constructor
      · rintro ⟨e, e1, e2, e3⟩
        by_cases h : e = d
        · subst h; exact .inl e3
        · exact .inr ⟨e, by omega, by omega, e3⟩
      · rintro (h | ⟨e, e1, e2, e3⟩)
        · exact ⟨d, by omega, by omega, h⟩
        · exact ⟨e, by omega, by omega, e3⟩
    rw [key]
    split
    · rename_i g
      have g := of_decide_eq_true g
      rw [List.mem_cons, ih]
      constructor
      · rintro (h | h)
        · subst h; exact ⟨g, .inl rfl⟩
        · exact ⟨h.1, .inr h.2⟩
      · rintro ⟨h1, h | h⟩
        · exact .inl h
        · exact .inr ⟨h1, h⟩
    · rename_i g
      rw [ih]
      constructor
      · rintro ⟨h1, h⟩; exact ⟨h1, .inr h⟩
      · rintro ⟨h1, h | h⟩
        · subst h; exact absurd (decide_eq_true h1) g
        · exact ⟨h1, h⟩

/-- two places of a map lie side by side -/
def gN (m : Map) (j k : Int) : Prop := (0 ≤ j ∧ j < m.w * m.h) ∧ 0 ≤ k ∧ ∃ d, 0 ≤ d ∧ d ≤ 5 ∧ k = nx m j d

theorem gN_nb {m : Map} {j k : Int} (hj : 0 ≤ j ∧ j < m.w * m.h) : gN m j k ↔ k ∈ nbL m j 6 0 := by
  rw [nbL_iff]
  constructor
  · rintro ⟨_, h1, d, d0, d5, h2⟩
    exact ⟨h1, d, d0, by omega, h2⟩
  · rintro ⟨h1, d, d0, d5, h2⟩
    exact ⟨hj, h1, d, d0, by omega, h2⟩

theorem gN_b {m : Map} (h : WH m) {j k : Int} (hg : gN m j k) : 0 ≤ k ∧ k < m.w * m.h := by
  obtain ⟨_, h1, d, _, _, rfl⟩ := hg
  have := nx_b h j d
  exact ⟨h1, by omega⟩

def opO (O : List Bool) : Int → Bool := fun k => O.getD k.toNat false

/-- the least numbers of steps -/
noncomputable def spL (m : Map) (O : List Bool) (F : List Int) : List Int := dsS O.length (gN m) (opO O) (srcS F (opO O))

theorem spL_ok (m : Map) (O : List Bool) (F : List Int) : DstS O.length (gN m) (opO O) (srcS F (opO O)) (spL m O F) := dsS_ok _ _ _ _

theorem spL_len (m : Map) (O : List Bool) (F : List Int) : (spL m O F).length = O.length := (spL_ok m O F).len

theorem F_spread (m : Map) (h : WH m) (O : List Bool) (F : List Int) (hN : (O.length : Int) = m.w * m.h) (h6 : F.length ≤ 6) (hF : ∀ x ∈ F, 0 ≤ x ∧ x < O.length) :
    Fun E0 90 [.agg m.cs, .one (roB O), .one (roI F)] [] (.v (.one (.own 0 (spL m O F).length))) [(0, rwI (spL m O F))] [] := by
  have hm := h.mul
  refine Fun_of_xc k90 rfl rfl (nrC (rwI_no _) nrN) ?_
  ((conv=>whnf);repeat((first|refine Ct ‹_› ?_|refine Cf ‹_› ?_|refine Ct rfl ?_|refine Cf rfl ?_|refine Bi rfl ?_|refine Bz rfl ?_|refine Lr ?_);conv=>whnf))
  refine Rw_i (rwI []) (rwI_nil _) ?_
  ((conv=>whnf);repeat((first|refine Ct ‹_› ?_|refine Cf ‹_› ?_|refine Ct rfl ?_|refine Cf rfl ?_|refine Bi rfl ?_|refine Bz rfl ?_|refine Lr ?_);conv=>whnf))
  refine Bnd_i (by omega) ?_
  ((conv=>whnf);repeat((first|refine Ct ‹_› ?_|refine Cf ‹_› ?_|refine Ct rfl ?_|refine Cf rfl ?_|refine Bi rfl ?_|refine Bz rfl ?_|refine Lr ?_);conv=>whnf))
  refine Rw_i (rwIn O.length (List.replicate O.length 0)) (rwIn_zero _) ?_
  ((conv=>whnf);repeat((first|refine Ct ‹_› ?_|refine Cf ‹_› ?_|refine Ct rfl ?_|refine Cf rfl ?_|refine Bi rfl ?_|refine Bz rfl ?_|refine Lr ?_);conv=>whnf))
  refine Rw_i (rwI []) (rwI_nil _) ?_
  ((conv=>whnf);repeat((first|refine Ct ‹_› ?_|refine Cf ‹_› ?_|refine Ct rfl ?_|refine Cf rfl ?_|refine Bi rfl ?_|refine Bz rfl ?_|refine Lr ?_);conv=>whnf))
  refine WLoop_v2 ⟨[1, 2, 3, 7, 8, 20, 21], [3], []⟩ (fun (t : Int) (L : List Int) => hdS 91 [(1, .v (.one (roB O))), (2, .v (.one (roI F))), (3, .v (.one (.box 3 0))), (7, .v (.one (.own (vkey 7) O.length))), (8, .v (.one (.own (vkey 8) 0))), (20, .v (vI O.length)), (21, .v (vI t))] [(3, m.cs)] [(vkey 7, rwIn O.length L), (vkey 8, rwI [])])
    (fun n t L => 0 ≤ t ∧ t + n = O.length ∧ L.length = O.length ∧ ∀ j : Nat, (j : Int) < t → L.getD j 0 = -1) O.length 0 (List.replicate O.length 0) rfl ⟨by omega, by omega, by simp, fun j hj => by omega⟩ ?_
  rintro n t L ⟨h1, h2, hlen, h3⟩
  ((conv=>whnf);repeat((first|refine Ct ‹_› ?_|refine Cf ‹_› ?_|refine Ct rfl ?_|refine Cf rfl ?_|refine Bi rfl ?_|refine Bz rfl ?_|refine Lr ?_);conv=>whnf))
  refine Cnd_i (fun g => ?_) (fun g => ?_)
  · have ht := of_decide_eq_true g
    ((conv=>whnf);repeat((first|refine Ct ‹_› ?_|refine Cf ‹_› ?_|refine Ct rfl ?_|refine Cf rfl ?_|refine Bi rfl ?_|refine Bz rfl ?_|refine Lr ?_);conv=>whnf))
    refine Bnd_i (⟨h1, ht⟩) ?_; ((conv=>whnf);repeat((first|refine Ct ‹_› ?_|refine Cf ‹_› ?_|refine Ct rfl ?_|refine Cf rfl ?_|refine Bi rfl ?_|refine Bz rfl ?_|refine Lr ?_);conv=>whnf))
    refine Rw_i (rwIn O.length (L.set t.toNat (-1))) (rwIn_set _ _ _ _ (by omega)) ?_
    ((conv=>whnf);repeat((first|refine Ct ‹_› ?_|refine Cf ‹_› ?_|refine Ct rfl ?_|refine Cf rfl ?_|refine Bi rfl ?_|refine Bz rfl ?_|refine Lr ?_);conv=>whnf))
    refine ⟨n - 1, t + 1, L.set t.toNat (-1), ?_, by omega, by omega, by omega, by simp [hlen], fun j hj => ?_⟩
    · rw [wrapI (by omega)]; rfl
    · rw [getD_set _ _ _ _ (by omega)]
      split
      · rfl
      · exact h3 j (by omega)
  have ht := of_decide_eq_false g
  have hL := all_neg1 hlen (fun j hj => h3 j (by omega))
  subst hL
  clear h1 h2 h3 hlen g ht
  ((conv=>whnf);repeat((first|refine Ct ‹_› ?_|refine Cf ‹_› ?_|refine Ct rfl ?_|refine Cf rfl ?_|refine Bi rfl ?_|refine Bz rfl ?_|refine Lr ?_);conv=>whnf))
  refine WLoop_v3 ⟨[1, 3, 7, 8, 28, 29, 30], [3], []⟩ (fun (t : Int) (L Q : List Int) => hdS 91 [(1, .v (.one (roB O))), (3, .v (.one (.box 3 0))), (7, .v (.one (.own (vkey 7) O.length))), (8, .v (.one (.own (vkey 8) Q.length))), (28, .v (.one (roI F))), (29, .v (vI F.length)), (30, .v (vI t))] [(3, m.cs)] [(vkey 7, rwIn O.length L), (vkey 8, rwI Q)])
    (fun n t L Q => 0 ≤ t ∧ t + n = F.length ∧ Bsr O.length (opO O) F L Q t.toNat) F.length 0 (List.replicate O.length (-1)) [] rfl ⟨by omega, by omega, Bsr.init _ _ _⟩ ?_
  rintro n t L Q ⟨h1, h2, h3⟩
  have hlen := h3.len
  have hql := h3.ql
  ((conv=>whnf);repeat((first|refine Ct ‹_› ?_|refine Cf ‹_› ?_|refine Ct rfl ?_|refine Cf rfl ?_|refine Bi rfl ?_|refine Bz rfl ?_|refine Lr ?_);conv=>whnf))
  refine Cnd_i (fun g => ?_) (fun g => ?_)
  · have ht := of_decide_eq_true g
    have hx := hF _ (getD_mem h1 ht)
    ((conv=>whnf);repeat((first|refine Ct ‹_› ?_|refine Cf ‹_› ?_|refine Ct rfl ?_|refine Cf rfl ?_|refine Bi rfl ?_|refine Bz rfl ?_|refine Lr ?_);conv=>whnf))
    refine Bnd_i (⟨h1, ht⟩) ?_; ((conv=>whnf);repeat((first|refine Ct ‹_› ?_|refine Cf ‹_› ?_|refine Ct rfl ?_|refine Cf rfl ?_|refine Bi rfl ?_|refine Bz rfl ?_|refine Lr ?_);conv=>whnf))
    refine Bnd_i (⟨hx.1, hx.2⟩) ?_; ((conv=>whnf);repeat((first|refine Ct ‹_› ?_|refine Cf ‹_› ?_|refine Ct rfl ?_|refine Cf rfl ?_|refine Bi rfl ?_|refine Bz rfl ?_|refine Lr ?_);conv=>whnf))
    refine Cnd_i (fun g2 => ?_) (fun g2 => ?_)
    · ((conv=>whnf);repeat((first|refine Ct ‹_› ?_|refine Cf ‹_› ?_|refine Ct rfl ?_|refine Cf rfl ?_|refine Bi rfl ?_|refine Bz rfl ?_|refine Lr ?_);conv=>whnf))
      refine Bnd_i (⟨hx.1, hx.2⟩) ?_; ((conv=>whnf);repeat((first|refine Ct ‹_› ?_|refine Cf ‹_› ?_|refine Ct rfl ?_|refine Cf rfl ?_|refine Bi rfl ?_|refine Bz rfl ?_|refine Lr ?_);conv=>whnf))
      refine Rw_i (rwIn O.length (L.set (F.getD t.toNat 0).toNat 0)) (rwIn_set _ _ _ _ (by omega)) ?_
      ((conv=>whnf);repeat((first|refine Ct ‹_› ?_|refine Cf ‹_› ?_|refine Ct rfl ?_|refine Cf rfl ?_|refine Bi rfl ?_|refine Bz rfl ?_|refine Lr ?_);conv=>whnf))
      refine Rw_self ?_
      ((conv=>whnf);repeat((first|refine Ct ‹_› ?_|refine Cf ‹_› ?_|refine Ct rfl ?_|refine Cf rfl ?_|refine Bi rfl ?_|refine Bz rfl ?_|refine Lr ?_);conv=>whnf))
      refine Bnd_i ?_ ?_
      · show Q.length + 1 < _
        omega
      ((conv=>whnf);repeat((first|refine Ct ‹_› ?_|refine Cf ‹_› ?_|refine Ct rfl ?_|refine Cf rfl ?_|refine Bi rfl ?_|refine Bz rfl ?_|refine Lr ?_);conv=>whnf))
      refine Rw_i (rwI (Q ++ [F.getD t.toNat 0])) (rwI_app _ _ _ rfl) ?_
      ((conv=>whnf);repeat((first|refine Ct ‹_› ?_|refine Cf ‹_› ?_|refine Ct rfl ?_|refine Cf rfl ?_|refine Bi rfl ?_|refine Bz rfl ?_|refine Lr ?_);conv=>whnf))
      refine ⟨n - 1, t + 1, L.set (F.getD t.toNat 0).toNat 0, Q ++ [F.getD t.toNat 0], ?_, by omega, by omega, by omega, ?_⟩
      · rw [wrapI (by omega)]; rfl
      · rw [show (t + 1).toNat = t.toNat + 1 by omega]; exact h3.push (by omega) hx g2
    · ((conv=>whnf);repeat((first|refine Ct ‹_› ?_|refine Cf ‹_› ?_|refine Ct rfl ?_|refine Cf rfl ?_|refine Bi rfl ?_|refine Bz rfl ?_|refine Lr ?_);conv=>whnf))
      refine ⟨n - 1, t + 1, L, Q, ?_, by omega, by omega, by omega, ?_⟩
      · rw [wrapI (by omega)]; rfl
      · rw [show (t + 1).toNat = t.toNat + 1 by omega]; exact h3.skip g2
  have ht := of_decide_eq_false g
  rw [show t.toNat = F.length by omega] at h3
  have hb0 : Bfs O.length (gN m) (opO O) (srcS F (opO O)) L Q 0 := h3.fin h6 hF
  clear h3 h1 h2 hlen hql g ht
  ((conv=>whnf);repeat((first|refine Ct ‹_› ?_|refine Cf ‹_› ?_|refine Ct rfl ?_|refine Cf rfl ?_|refine Bi rfl ?_|refine Bz rfl ?_|refine Lr ?_);conv=>whnf))
  refine WLoop_v3 ⟨[1, 3, 7, 8, 12], [3], []⟩ (fun (a : Int) (L Q : List Int) => hdS 91 [(1, .v (.one (roB O))), (3, .v (.one (.box 3 0))), (7, .v (.one (.own (vkey 7) O.length))), (8, .v (.one (.own (vkey 8) Q.length))), (12, .v (vI a))] [(3, m.cs)] [(vkey 7, rwIn O.length L), (vkey 8, rwI Q)])
    (fun n a L Q => 0 ≤ a ∧ a + n = 6 + O.length ∧ Bfs O.length (gN m) (opO O) (srcS F (opO O)) L Q a.toNat) (6 + O.length) 0 L Q rfl ⟨by omega, by omega, hb0⟩ ?_
  clear hb0
  rintro n a L Q ⟨a1, a2, hb⟩
  have hlen := hb.len
  have hbd := hb.bound
  ((conv=>whnf);repeat((first|refine Ct ‹_› ?_|refine Cf ‹_› ?_|refine Ct rfl ?_|refine Cf rfl ?_|refine Bi rfl ?_|refine Bz rfl ?_|refine Lr ?_);conv=>whnf))
  refine Cnd_i (fun g => ?_) (fun g => ?_)
  rotate_left
  · have ha := of_decide_eq_false g
    have hd := hb.fin (by omega) (fun j k hg => by have := gN_b h hg; omega)
    ((conv=>whnf);repeat((first|refine Ct ‹_› ?_|refine Cf ‹_› ?_|refine Ct rfl ?_|refine Cf rfl ?_|refine Bi rfl ?_|refine Bz rfl ?_|refine Lr ?_);conv=>whnf))
    have e1 : spL m O F = L := hd.eq.symm
    rw [e1, rwIn_eq hd.len, hd.len]
    exact ⟨rfl, rfl, rfl⟩
  have ha := of_decide_eq_true g
  have hq := hb.q a.toNat (by omega)
  ((conv=>whnf);repeat((first|refine Ct ‹_› ?_|refine Cf ‹_› ?_|refine Ct rfl ?_|refine Cf rfl ?_|refine Bi rfl ?_|refine Bz rfl ?_|refine Lr ?_);conv=>whnf))
  refine Bnd_i (⟨a1, by omega⟩) ?_; ((conv=>whnf);repeat((first|refine Ct ‹_› ?_|refine Cf ‹_› ?_|refine Ct rfl ?_|refine Cf rfl ?_|refine Bi rfl ?_|refine Bz rfl ?_|refine Lr ?_);conv=>whnf))
  (refine CallQ_some (F_neighboursOn m h _ hq.1.1 (by omega)) ?_ ?_ ?_; rfl; rfl); ((conv=>whnf);repeat((first|refine Ct ‹_› ?_|refine Cf ‹_› ?_|refine Ct rfl ?_|refine Cf rfl ?_|refine Bi rfl ?_|refine Bz rfl ?_|refine Lr ?_);conv=>whnf))
  have hnb := fun x => gN_nb (m := m) (j := Q.getD a.toNat 0) (k := x) (by omega)
  have hBl := nbL_le m (Q.getD a.toNat 0) 6 0
  generalize hBe : nbL m (Q.getD a.toNat 0) 6 0 = B at hnb hBl ⊢
  refine WLoop_v3 ⟨[1, 3, 7, 8, 12, 57, 58, 59], [3], []⟩ (fun (t : Int) (L Q : List Int) => hdS 91 [(1, .v (.one (roB O))), (3, .v (.one (.box 3 0))), (7, .v (.one (.own (vkey 7) O.length))), (8, .v (.one (.own (vkey 8) Q.length))), (12, .v (vI a)), (57, .v (.one (.own (vkey 57) B.length))), (58, .v (vI B.length)), (59, .v (vI t))] [(3, m.cs)] [(vkey 7, rwIn O.length L), (vkey 8, rwI Q), (vkey 57, rwI B)])
    (fun l t L' Q' => 0 ≤ t ∧ t + l = B.length ∧ Q'.getD a.toNat 0 = Q.getD a.toNat 0 ∧ Bfi O.length (gN m) (opO O) (srcS F (opO O)) L' Q' a.toNat (fun x => ∃ i : Nat, (i : Int) < t ∧ B.getD i 0 = x)) B.length 0 L Q rfl ⟨by omega, by omega, rfl, (Bfi.init hb (by omega)).cong (fun x ⟨i, hi, _⟩ => by omega)⟩ ?_
  generalize hQ0 : Q.getD a.toNat 0 = q0 at *
  clear hb hlen hbd hq ha g
  rintro l t L Q ⟨t1, t2, hqe, hi⟩
  have hlen := hi.b.len
  have hlt := hi.lt
  have hqi := hi.b.q a.toNat hlt
  have hbd := hi.b.bound
  ((conv=>whnf);repeat((first|refine Ct ‹_› ?_|refine Cf ‹_› ?_|refine Ct rfl ?_|refine Cf rfl ?_|refine Bi rfl ?_|refine Bz rfl ?_|refine Lr ?_);conv=>whnf))
  refine Cnd_i (fun g => ?_) (fun g => ?_)
  rotate_left
  · have ht := of_decide_eq_false g
    ((conv=>whnf);repeat((first|refine Ct ‹_› ?_|refine Cf ‹_› ?_|refine Ct rfl ?_|refine Cf rfl ?_|refine Bi rfl ?_|refine Bz rfl ?_|refine Lr ?_);conv=>whnf))
    refine ⟨n - 1, a + 1, L, Q, ?_, by omega, by omega, by omega, ?_⟩
    · rw [wrapI (by omega)]; rfl
    · rw [show (a + 1).toNat = a.toNat + 1 by omega]
      refine hi.fin (fun k hg => ?_)
      rw [hqe] at hg
      obtain ⟨i, i1, i2⟩ := List.mem_iff_getElem.1 ((hnb k).1 hg)
      exact ⟨i, by omega, by simpa [List.getD_eq_getElem?_getD, i1] using i2⟩
  have ht := of_decide_eq_true g
  have hgk := (hnb _).2 (getD_mem t1 ht)
  have hk : 0 ≤ B.getD t.toNat 0 ∧ B.getD t.toNat 0 < O.length := by have := gN_b h hgk; omega
  have hdn : ∀ x : Int, (∃ i : Nat, (i : Int) < t + 1 ∧ B.getD i 0 = x) → (∃ i : Nat, (i : Int) < t ∧ B.getD i 0 = x) ∨ x = B.getD t.toNat 0 := by
    rintro x ⟨i, i1, i2⟩
    by_cases e : (i : Int) = t
    · right; rw [← i2, show t.toNat = i by omega]
    · exact .inl ⟨i, by omega, i2⟩
  ((conv=>whnf);repeat((first|refine Ct ‹_› ?_|refine Cf ‹_› ?_|refine Ct rfl ?_|refine Cf rfl ?_|refine Bi rfl ?_|refine Bz rfl ?_|refine Lr ?_);conv=>whnf))
  refine Bnd_i (⟨t1, ht⟩) ?_; ((conv=>whnf);repeat((first|refine Ct ‹_› ?_|refine Cf ‹_› ?_|refine Ct rfl ?_|refine Cf rfl ?_|refine Bi rfl ?_|refine Bz rfl ?_|refine Lr ?_);conv=>whnf))
  refine Bnd_i (⟨hk.1, hk.2⟩) ?_; ((conv=>whnf);repeat((first|refine Ct ‹_› ?_|refine Cf ‹_› ?_|refine Ct rfl ?_|refine Cf rfl ?_|refine Bi rfl ?_|refine Bz rfl ?_|refine Lr ?_);conv=>whnf))
  refine Cnd_i (fun g2 => ?_) (fun g2 => ?_)
  · ((conv=>whnf);repeat((first|refine Ct ‹_› ?_|refine Cf ‹_› ?_|refine Ct rfl ?_|refine Cf rfl ?_|refine Bi rfl ?_|refine Bz rfl ?_|refine Lr ?_);conv=>whnf))
    refine Bnd_i (⟨hk.1, hk.2⟩) ?_; ((conv=>whnf);repeat((first|refine Ct ‹_› ?_|refine Cf ‹_› ?_|refine Ct rfl ?_|refine Cf rfl ?_|refine Bi rfl ?_|refine Bz rfl ?_|refine Lr ?_);conv=>whnf))
    refine Cnd_i (fun g3 => ?_) (fun g3 => ?_)
    · have d3 := of_decide_eq_true g3
      ((conv=>whnf);repeat((first|refine Ct ‹_› ?_|refine Cf ‹_› ?_|refine Ct rfl ?_|refine Cf rfl ?_|refine Bi rfl ?_|refine Bz rfl ?_|refine Lr ?_);conv=>whnf))
      refine Bnd_i (⟨a1, by omega⟩) ?_; ((conv=>whnf);repeat((first|refine Ct ‹_› ?_|refine Cf ‹_› ?_|refine Ct rfl ?_|refine Cf rfl ?_|refine Bi rfl ?_|refine Bz rfl ?_|refine Lr ?_);conv=>whnf))
      refine Bnd_i (⟨hqi.1.1, hqi.1.2⟩) ?_; ((conv=>whnf);repeat((first|refine Ct ‹_› ?_|refine Cf ‹_› ?_|refine Ct rfl ?_|refine Cf rfl ?_|refine Bi rfl ?_|refine Bz rfl ?_|refine Lr ?_);conv=>whnf))
      refine Bnd_i (⟨hk.1, hk.2⟩) ?_; ((conv=>whnf);repeat((first|refine Ct ‹_› ?_|refine Cf ‹_› ?_|refine Ct rfl ?_|refine Cf rfl ?_|refine Bi rfl ?_|refine Bz rfl ?_|refine Lr ?_);conv=>whnf))
      refine Rw_i (rwIn O.length (L.set (B.getD t.toNat 0).toNat (L.getD (Q.getD a.toNat 0).toNat 0 + 1))) (by rw [wrapI (by omega)]; exact rwIn_set _ _ _ _ (by omega)) ?_
      ((conv=>whnf);repeat((first|refine Ct ‹_› ?_|refine Cf ‹_› ?_|refine Ct rfl ?_|refine Cf rfl ?_|refine Bi rfl ?_|refine Bz rfl ?_|refine Lr ?_);conv=>whnf))
      refine Rw_self ?_
      ((conv=>whnf);repeat((first|refine Ct ‹_› ?_|refine Cf ‹_› ?_|refine Ct rfl ?_|refine Cf rfl ?_|refine Bi rfl ?_|refine Bz rfl ?_|refine Lr ?_);conv=>whnf))
      refine Bnd_i ?_ ?_
      · show Q.length + 1 < _
        omega
      ((conv=>whnf);repeat((first|refine Ct ‹_› ?_|refine Cf ‹_› ?_|refine Ct rfl ?_|refine Cf rfl ?_|refine Bi rfl ?_|refine Bz rfl ?_|refine Lr ?_);conv=>whnf))
      refine Rw_i (rwI (Q ++ [(B.getD t.toNat 0)])) (rwI_app _ _ _ rfl) ?_
      ((conv=>whnf);repeat((first|refine Ct ‹_› ?_|refine Cf ‹_› ?_|refine Ct rfl ?_|refine Cf rfl ?_|refine Bi rfl ?_|refine Bz rfl ?_|refine Lr ?_);conv=>whnf))
      refine ⟨l - 1, t + 1, L.set (B.getD t.toNat 0).toNat (L.getD (Q.getD a.toNat 0).toNat 0 + 1), Q ++ [B.getD t.toNat 0], ?_, by omega, by omega, by omega, ?_, (hi.push hk (by rw [hqe]; exact hgk) g2 d3).cong hdn⟩
      · rw [wrapI (n := t + 1) (by omega)]; rfl
      · rw [getD_snoc, if_pos hlt]; exact hqe
    · have d3 := of_decide_eq_false g3
      ((conv=>whnf);repeat((first|refine Ct ‹_› ?_|refine Cf ‹_› ?_|refine Ct rfl ?_|refine Cf rfl ?_|refine Bi rfl ?_|refine Bz rfl ?_|refine Lr ?_);conv=>whnf))
      refine ⟨l - 1, t + 1, L, Q, ?_, by omega, by omega, by omega, hqe, (hi.skip hk (fun _ => by omega)).cong hdn⟩
      rw [wrapI (n := t + 1) (by omega)]; rfl
  · ((conv=>whnf);repeat((first|refine Ct ‹_› ?_|refine Cf ‹_› ?_|refine Ct rfl ?_|refine Cf rfl ?_|refine Bi rfl ?_|refine Bz rfl ?_|refine Lr ?_);conv=>whnf))
    refine ⟨l - 1, t + 1, L, Q, ?_, by omega, by omega, by omega, hqe, (hi.skip hk (fun ho => by rw [show opO O (B.getD t.toNat 0) = false from g2] at ho; cases ho)).cong hdn⟩
    rw [wrapI (n := t + 1) (by omega)]; rfl

theorem F_jFar (m : Map) (h : WH m) (O : List Bool) (F : List Int) (hN : (O.length : Int) = m.w * m.h) (h6 : F.length ≤ 6) (hF : ∀ x ∈ F, 0 ≤ x ∧ x < O.length) :
    Fun E0 50 [.agg m.cs, .one (roB O), .one (roI F)] [] (.v (.one (.own 0 (spL m O F).length))) [(0, rwI (spL m O F))] [] := by
  have hm := h.mul
  refine Fun_of_xc k50 rfl rfl (nrC (rwI_no _) nrN) ?_
  ((conv=>whnf);repeat((first|refine Ct ‹_› ?_|refine Cf ‹_› ?_|refine Ct rfl ?_|refine Cf rfl ?_|refine Bi rfl ?_|refine Bz rfl ?_|refine Lr ?_);conv=>whnf))
  refine Rw_i (rwI []) (rwI_nil _) ?_
  ((conv=>whnf);repeat((first|refine Ct ‹_› ?_|refine Cf ‹_› ?_|refine Ct rfl ?_|refine Cf rfl ?_|refine Bi rfl ?_|refine Bz rfl ?_|refine Lr ?_);conv=>whnf))
  refine Bnd_i (by omega) ?_
  ((conv=>whnf);repeat((first|refine Ct ‹_› ?_|refine Cf ‹_› ?_|refine Ct rfl ?_|refine Cf rfl ?_|refine Bi rfl ?_|refine Bz rfl ?_|refine Lr ?_);conv=>whnf))
  refine Rw_i (rwIn O.length (List.replicate O.length 0)) (rwIn_zero _) ?_
  ((conv=>whnf);repeat((first|refine Ct ‹_› ?_|refine Cf ‹_› ?_|refine Ct rfl ?_|refine Cf rfl ?_|refine Bi rfl ?_|refine Bz rfl ?_|refine Lr ?_);conv=>whnf))
  refine WLoop_v2 ⟨[1, 2, 3, 7, 19, 20], [3], []⟩ (fun (t : Int) (L : List Int) => hdS 93 [(1, .v (.one (roB O))), (2, .v (.one (roI F))), (3, .v (.one (.box 3 0))), (7, .v (.one (.own (vkey 7) O.length))), (19, .v (vI O.length)), (20, .v (vI t))] [(3, m.cs)] [(vkey 7, rwIn O.length L)])
    (fun n t L => 0 ≤ t ∧ t + n = O.length ∧ L.length = O.length ∧ ∀ j : Nat, (j : Int) < t → L.getD j 0 = -1) O.length 0 (List.replicate O.length 0) rfl ⟨by omega, by omega, by simp, fun j hj => by omega⟩ ?_
  rintro n t L ⟨h1, h2, hlen, h3⟩
  ((conv=>whnf);repeat((first|refine Ct ‹_› ?_|refine Cf ‹_› ?_|refine Ct rfl ?_|refine Cf rfl ?_|refine Bi rfl ?_|refine Bz rfl ?_|refine Lr ?_);conv=>whnf))
  refine Cnd_i (fun g => ?_) (fun g => ?_)
  · have ht := of_decide_eq_true g
    ((conv=>whnf);repeat((first|refine Ct ‹_› ?_|refine Cf ‹_› ?_|refine Ct rfl ?_|refine Cf rfl ?_|refine Bi rfl ?_|refine Bz rfl ?_|refine Lr ?_);conv=>whnf))
    refine Bnd_i (⟨h1, ht⟩) ?_; ((conv=>whnf);repeat((first|refine Ct ‹_› ?_|refine Cf ‹_› ?_|refine Ct rfl ?_|refine Cf rfl ?_|refine Bi rfl ?_|refine Bz rfl ?_|refine Lr ?_);conv=>whnf))
    refine Rw_i (rwIn O.length (L.set t.toNat (-1))) (rwIn_set _ _ _ _ (by omega)) ?_
    ((conv=>whnf);repeat((first|refine Ct ‹_› ?_|refine Cf ‹_› ?_|refine Ct rfl ?_|refine Cf rfl ?_|refine Bi rfl ?_|refine Bz rfl ?_|refine Lr ?_);conv=>whnf))
    refine ⟨n - 1, t + 1, L.set t.toNat (-1), ?_, by omega, by omega, by omega, by simp [hlen], fun j hj => ?_⟩
    · rw [wrapI (by omega)]; rfl
    · rw [getD_set _ _ _ _ (by omega)]
      split
      · rfl
      · exact h3 j (by omega)
  have ht := of_decide_eq_false g
  have hL := all_neg1 hlen (fun j hj => h3 j (by omega))
  subst hL
  clear h1 h2 h3 hlen g ht
  ((conv=>whnf);repeat((first|refine Ct ‹_› ?_|refine Cf ‹_› ?_|refine Ct rfl ?_|refine Cf rfl ?_|refine Bi rfl ?_|refine Bz rfl ?_|refine Lr ?_);conv=>whnf))
  refine Rw_i (rwI []) (rwI_nil _) ?_
  ((conv=>whnf);repeat((first|refine Ct ‹_› ?_|refine Cf ‹_› ?_|refine Ct rfl ?_|refine Cf rfl ?_|refine Bi rfl ?_|refine Bz rfl ?_|refine Lr ?_);conv=>whnf))
  refine WLoop_v3 ⟨[1, 3, 7, 9, 27, 28, 29], [3], []⟩ (fun (t : Int) (L Q : List Int) => hdS 93 [(1, .v (.one (roB O))), (3, .v (.one (.box 3 0))), (7, .v (.one (.own (vkey 7) O.length))), (9, .v (.one (.own (vkey 9) Q.length))), (27, .v (.one (roI F))), (28, .v (vI F.length)), (29, .v (vI t))] [(3, m.cs)] [(vkey 7, rwIn O.length L), (vkey 9, rwI Q)])
    (fun n t L Q => 0 ≤ t ∧ t + n = F.length ∧ Bsr O.length (opO O) F L Q t.toNat) F.length 0 (List.replicate O.length (-1)) [] rfl ⟨by omega, by omega, Bsr.init _ _ _⟩ ?_
  rintro n t L Q ⟨h1, h2, h3⟩
  have hlen := h3.len
  have hql := h3.ql
  ((conv=>whnf);repeat((first|refine Ct ‹_› ?_|refine Cf ‹_› ?_|refine Ct rfl ?_|refine Cf rfl ?_|refine Bi rfl ?_|refine Bz rfl ?_|refine Lr ?_);conv=>whnf))
  refine Cnd_i (fun g => ?_) (fun g => ?_)
  · have ht := of_decide_eq_true g
    have hx := hF _ (getD_mem h1 ht)
    ((conv=>whnf);repeat((first|refine Ct ‹_› ?_|refine Cf ‹_› ?_|refine Ct rfl ?_|refine Cf rfl ?_|refine Bi rfl ?_|refine Bz rfl ?_|refine Lr ?_);conv=>whnf))
    refine Bnd_i (⟨h1, ht⟩) ?_; ((conv=>whnf);repeat((first|refine Ct ‹_› ?_|refine Cf ‹_› ?_|refine Ct rfl ?_|refine Cf rfl ?_|refine Bi rfl ?_|refine Bz rfl ?_|refine Lr ?_);conv=>whnf))
    refine Bnd_i (⟨hx.1, hx.2⟩) ?_; ((conv=>whnf);repeat((first|refine Ct ‹_› ?_|refine Cf ‹_› ?_|refine Ct rfl ?_|refine Cf rfl ?_|refine Bi rfl ?_|refine Bz rfl ?_|refine Lr ?_);conv=>whnf))
    refine Cnd_i (fun g2 => ?_) (fun g2 => ?_)
    · ((conv=>whnf);repeat((first|refine Ct ‹_› ?_|refine Cf ‹_› ?_|refine Ct rfl ?_|refine Cf rfl ?_|refine Bi rfl ?_|refine Bz rfl ?_|refine Lr ?_);conv=>whnf))
      refine Bnd_i (⟨hx.1, hx.2⟩) ?_; ((conv=>whnf);repeat((first|refine Ct ‹_› ?_|refine Cf ‹_› ?_|refine Ct rfl ?_|refine Cf rfl ?_|refine Bi rfl ?_|refine Bz rfl ?_|refine Lr ?_);conv=>whnf))
      refine Rw_i (rwIn O.length (L.set (F.getD t.toNat 0).toNat 0)) (rwIn_set _ _ _ _ (by omega)) ?_
      ((conv=>whnf);repeat((first|refine Ct ‹_› ?_|refine Cf ‹_› ?_|refine Ct rfl ?_|refine Cf rfl ?_|refine Bi rfl ?_|refine Bz rfl ?_|refine Lr ?_);conv=>whnf))
      refine Rw_self ?_
      ((conv=>whnf);repeat((first|refine Ct ‹_› ?_|refine Cf ‹_› ?_|refine Ct rfl ?_|refine Cf rfl ?_|refine Bi rfl ?_|refine Bz rfl ?_|refine Lr ?_);conv=>whnf))
      refine Bnd_i ?_ ?_
      · show Q.length + 1 < _
        omega
      ((conv=>whnf);repeat((first|refine Ct ‹_› ?_|refine Cf ‹_› ?_|refine Ct rfl ?_|refine Cf rfl ?_|refine Bi rfl ?_|refine Bz rfl ?_|refine Lr ?_);conv=>whnf))
      refine Rw_i (rwI (Q ++ [F.getD t.toNat 0])) (rwI_app _ _ _ rfl) ?_
      ((conv=>whnf);repeat((first|refine Ct ‹_› ?_|refine Cf ‹_› ?_|refine Ct rfl ?_|refine Cf rfl ?_|refine Bi rfl ?_|refine Bz rfl ?_|refine Lr ?_);conv=>whnf))
      refine ⟨n - 1, t + 1, L.set (F.getD t.toNat 0).toNat 0, Q ++ [F.getD t.toNat 0], ?_, by omega, by omega, by omega, ?_⟩
      · rw [wrapI (by omega)]; rfl
      · rw [show (t + 1).toNat = t.toNat + 1 by omega]; exact h3.push (by omega) hx g2
    · ((conv=>whnf);repeat((first|refine Ct ‹_› ?_|refine Cf ‹_› ?_|refine Ct rfl ?_|refine Cf rfl ?_|refine Bi rfl ?_|refine Bz rfl ?_|refine Lr ?_);conv=>whnf))
      refine ⟨n - 1, t + 1, L, Q, ?_, by omega, by omega, by omega, ?_⟩
      · rw [wrapI (by omega)]; rfl
      · rw [show (t + 1).toNat = t.toNat + 1 by omega]; exact h3.skip g2
  have ht := of_decide_eq_false g
  rw [show t.toNat = F.length by omega] at h3
  have hb0 : Bfs O.length (gN m) (opO O) (srcS F (opO O)) L Q 0 := h3.fin h6 hF
  clear h3 h1 h2 hlen hql g ht
  ((conv=>whnf);repeat((first|refine Ct ‹_› ?_|refine Cf ‹_› ?_|refine Ct rfl ?_|refine Cf rfl ?_|refine Bi rfl ?_|refine Bz rfl ?_|refine Lr ?_);conv=>whnf))
  refine WLoop_v3 ⟨[1, 3, 7, 9, 12], [3], []⟩ (fun (a : Int) (L Q : List Int) => hdS 93 [(1, .v (.one (roB O))), (3, .v (.one (.box 3 0))), (7, .v (.one (.own (vkey 7) O.length))), (9, .v (.one (.own (vkey 9) Q.length))), (12, .v (vI a))] [(3, m.cs)] [(vkey 7, rwIn O.length L), (vkey 9, rwI Q)])
    (fun n a L Q => 0 ≤ a ∧ a + n = 6 + O.length ∧ Bfs O.length (gN m) (opO O) (srcS F (opO O)) L Q a.toNat) (6 + O.length) 0 L Q rfl ⟨by omega, by omega, hb0⟩ ?_
  clear hb0
  rintro n a L Q ⟨a1, a2, hb⟩
  have hlen := hb.len
  have hbd := hb.bound
  ((conv=>whnf);repeat((first|refine Ct ‹_› ?_|refine Cf ‹_› ?_|refine Ct rfl ?_|refine Cf rfl ?_|refine Bi rfl ?_|refine Bz rfl ?_|refine Lr ?_);conv=>whnf))
  refine Cnd_i (fun g => ?_) (fun g => ?_)
  rotate_left
  · have ha := of_decide_eq_false g
    have hd := hb.fin (by omega) (fun j k hg => by have := gN_b h hg; omega)
    ((conv=>whnf);repeat((first|refine Ct ‹_› ?_|refine Cf ‹_› ?_|refine Ct rfl ?_|refine Cf rfl ?_|refine Bi rfl ?_|refine Bz rfl ?_|refine Lr ?_);conv=>whnf))
    have e1 : spL m O F = L := hd.eq.symm
    rw [e1, rwIn_eq hd.len, hd.len]
    exact ⟨rfl, rfl, rfl⟩
  have ha := of_decide_eq_true g
  have hq := hb.q a.toNat (by omega)
  ((conv=>whnf);repeat((first|refine Ct ‹_› ?_|refine Cf ‹_› ?_|refine Ct rfl ?_|refine Cf rfl ?_|refine Bi rfl ?_|refine Bz rfl ?_|refine Lr ?_);conv=>whnf))
  refine WLoop_v3 ⟨[1, 3, 7, 9, 12, 13], [3], []⟩ (fun (d : Int) (L Q : List Int) => hdS 93 [(1, .v (.one (roB O))), (3, .v (.one (.box 3 0))), (7, .v (.one (.own (vkey 7) O.length))), (9, .v (.one (.own (vkey 9) Q.length))), (12, .v (vI a)), (13, .v (vI d))] [(3, m.cs)] [(vkey 7, rwIn O.length L), (vkey 9, rwI Q)])
    (fun l d L' Q' => 0 ≤ d ∧ d + l = 6 ∧ Q'.getD a.toNat 0 = Q.getD a.toNat 0 ∧ Bfi O.length (gN m) (opO O) (srcS F (opO O)) L' Q' a.toNat (fun x => 0 ≤ x ∧ ∃ e, 0 ≤ e ∧ e < d ∧ x = nx m (Q.getD a.toNat 0) e)) 6 0 L Q rfl ⟨by omega, by omega, rfl, (Bfi.init hb (by omega)).cong (fun x ⟨_, e, e1, e2, _⟩ => by omega)⟩ ?_
  generalize hQ0 : Q.getD a.toNat 0 = q0 at *
  clear hb hlen hbd ha g
  rintro l d L Q ⟨t1, t2, hqe, hi⟩
  have hlen := hi.b.len
  have hlt := hi.lt
  have hqi := hi.b.q a.toNat hlt
  have hbd := hi.b.bound
  ((conv=>whnf);repeat((first|refine Ct ‹_› ?_|refine Cf ‹_› ?_|refine Ct rfl ?_|refine Cf rfl ?_|refine Bi rfl ?_|refine Bz rfl ?_|refine Lr ?_);conv=>whnf))
  refine Cnd_i (fun g => ?_) (fun g => ?_)
  rotate_left
  · have ht := of_decide_eq_false g
    ((conv=>whnf);repeat((first|refine Ct ‹_› ?_|refine Cf ‹_› ?_|refine Ct rfl ?_|refine Cf rfl ?_|refine Bi rfl ?_|refine Bz rfl ?_|refine Lr ?_);conv=>whnf))
    refine ⟨n - 1, a + 1, L, Q, ?_, by omega, by omega, by omega, ?_⟩
    · rw [wrapI (by omega)]; rfl
    · rw [show (a + 1).toNat = a.toNat + 1 by omega]
      refine hi.fin (fun k hg => ?_)
      rw [hqe] at hg
      obtain ⟨_, h1, e, e0, e5, e6⟩ := hg
      exact ⟨h1, e, e0, by omega, e6⟩
  have ht := of_decide_eq_true g
  have hdn : ∀ x : Int, (0 ≤ x ∧ ∃ e, 0 ≤ e ∧ e < d + 1 ∧ x = nx m q0 e) → (0 ≤ x ∧ ∃ e, 0 ≤ e ∧ e < d ∧ x = nx m q0 e) ∨ x = nx m q0 d := by
    rintro x ⟨x0, e, e1, e2, e3⟩
    by_cases e9 : e = d
    · subst e9; exact .inr e3
    · exact .inl ⟨x0, e, e1, by omega, e3⟩
  have hnb := nx_b h q0 d
  ((conv=>whnf);repeat((first|refine Ct ‹_› ?_|refine Cf ‹_› ?_|refine Ct rfl ?_|refine Cf rfl ?_|refine Bi rfl ?_|refine Bz rfl ?_|refine Lr ?_);conv=>whnf))
  refine Bnd_i (⟨a1, by omega⟩) ?_; ((conv=>whnf);repeat((first|refine Ct ‹_› ?_|refine Cf ‹_› ?_|refine Ct rfl ?_|refine Cf rfl ?_|refine Bi rfl ?_|refine Bz rfl ?_|refine Lr ?_);conv=>whnf))
  rw [hqe]
  (refine CallQ_some (F_mNext m h q0 d (by omega) (by omega) t1 (by omega)) ?_ ?_ ?_; rfl; rfl); ((conv=>whnf);repeat((first|refine Ct ‹_› ?_|refine Cf ‹_› ?_|refine Ct rfl ?_|refine Cf rfl ?_|refine Bi rfl ?_|refine Bz rfl ?_|refine Lr ?_);conv=>whnf))
  refine Cnd_i (fun g1 => ?_) (fun g1 => ?_)
  rotate_left
  · have d1 := of_decide_eq_false g1
    ((conv=>whnf);repeat((first|refine Ct ‹_› ?_|refine Cf ‹_› ?_|refine Ct rfl ?_|refine Cf rfl ?_|refine Bi rfl ?_|refine Bz rfl ?_|refine Lr ?_);conv=>whnf))
    refine ⟨l - 1, d + 1, L, Q, ?_, by omega, by omega, by omega, hqe, hi.cong (fun x hx => (hdn x hx).elim id (fun e9 => by omega))⟩
    rw [wrapI (n := d + 1) (by omega)]; rfl
  have d1 := of_decide_eq_true g1
  have hk : 0 ≤ nx m q0 d ∧ nx m q0 d < O.length := by omega
  have hgk : gN m q0 (nx m q0 d) := ⟨by omega, d1, d, t1, by omega, rfl⟩
  ((conv=>whnf);repeat((first|refine Ct ‹_› ?_|refine Cf ‹_› ?_|refine Ct rfl ?_|refine Cf rfl ?_|refine Bi rfl ?_|refine Bz rfl ?_|refine Lr ?_);conv=>whnf))
  refine Bnd_i (⟨hk.1, hk.2⟩) ?_; ((conv=>whnf);repeat((first|refine Ct ‹_› ?_|refine Cf ‹_› ?_|refine Ct rfl ?_|refine Cf rfl ?_|refine Bi rfl ?_|refine Bz rfl ?_|refine Lr ?_);conv=>whnf))
  refine Cnd_i (fun g2 => ?_) (fun g2 => ?_)
  · ((conv=>whnf);repeat((first|refine Ct ‹_› ?_|refine Cf ‹_› ?_|refine Ct rfl ?_|refine Cf rfl ?_|refine Bi rfl ?_|refine Bz rfl ?_|refine Lr ?_);conv=>whnf))
    refine Bnd_i (⟨hk.1, hk.2⟩) ?_; ((conv=>whnf);repeat((first|refine Ct ‹_› ?_|refine Cf ‹_› ?_|refine Ct rfl ?_|refine Cf rfl ?_|refine Bi rfl ?_|refine Bz rfl ?_|refine Lr ?_);conv=>whnf))
    refine Cnd_i (fun g3 => ?_) (fun g3 => ?_)
    · have d3 := of_decide_eq_true g3
      ((conv=>whnf);repeat((first|refine Ct ‹_› ?_|refine Cf ‹_› ?_|refine Ct rfl ?_|refine Cf rfl ?_|refine Bi rfl ?_|refine Bz rfl ?_|refine Lr ?_);conv=>whnf))
      refine Bnd_i (⟨a1, by omega⟩) ?_; ((conv=>whnf);repeat((first|refine Ct ‹_› ?_|refine Cf ‹_› ?_|refine Ct rfl ?_|refine Cf rfl ?_|refine Bi rfl ?_|refine Bz rfl ?_|refine Lr ?_);conv=>whnf))
      refine Bnd_i (⟨hqi.1.1, hqi.1.2⟩) ?_; ((conv=>whnf);repeat((first|refine Ct ‹_› ?_|refine Cf ‹_› ?_|refine Ct rfl ?_|refine Cf rfl ?_|refine Bi rfl ?_|refine Bz rfl ?_|refine Lr ?_);conv=>whnf))
      refine Bnd_i (⟨hk.1, hk.2⟩) ?_; ((conv=>whnf);repeat((first|refine Ct ‹_› ?_|refine Cf ‹_› ?_|refine Ct rfl ?_|refine Cf rfl ?_|refine Bi rfl ?_|refine Bz rfl ?_|refine Lr ?_);conv=>whnf))
      refine Rw_i (rwIn O.length (L.set (nx m q0 d).toNat (L.getD (Q.getD a.toNat 0).toNat 0 + 1))) (by rw [wrapI (by omega)]; exact rwIn_set _ _ _ _ (by omega)) ?_
      ((conv=>whnf);repeat((first|refine Ct ‹_› ?_|refine Cf ‹_› ?_|refine Ct rfl ?_|refine Cf rfl ?_|refine Bi rfl ?_|refine Bz rfl ?_|refine Lr ?_);conv=>whnf))
      refine Rw_self ?_
      ((conv=>whnf);repeat((first|refine Ct ‹_› ?_|refine Cf ‹_› ?_|refine Ct rfl ?_|refine Cf rfl ?_|refine Bi rfl ?_|refine Bz rfl ?_|refine Lr ?_);conv=>whnf))
      refine Bnd_i ?_ ?_
      · show Q.length + 1 < _
        omega
      ((conv=>whnf);repeat((first|refine Ct ‹_› ?_|refine Cf ‹_› ?_|refine Ct rfl ?_|refine Cf rfl ?_|refine Bi rfl ?_|refine Bz rfl ?_|refine Lr ?_);conv=>whnf))
      refine Rw_i (rwI (Q ++ [(nx m q0 d)])) (rwI_app _ _ _ rfl) ?_
      ((conv=>whnf);repeat((first|refine Ct ‹_› ?_|refine Cf ‹_› ?_|refine Ct rfl ?_|refine Cf rfl ?_|refine Bi rfl ?_|refine Bz rfl ?_|refine Lr ?_);conv=>whnf))
      refine ⟨l - 1, d + 1, L.set (nx m q0 d).toNat (L.getD (Q.getD a.toNat 0).toNat 0 + 1), Q ++ [nx m q0 d], ?_, by omega, by omega, by omega, ?_, (hi.push hk (by rw [hqe]; exact hgk) g2 d3).cong hdn⟩
      · rw [wrapI (n := d + 1) (by omega)]; rfl
      · rw [getD_snoc, if_pos hlt]; exact hqe
    · have d3 := of_decide_eq_false g3
      ((conv=>whnf);repeat((first|refine Ct ‹_› ?_|refine Cf ‹_› ?_|refine Ct rfl ?_|refine Cf rfl ?_|refine Bi rfl ?_|refine Bz rfl ?_|refine Lr ?_);conv=>whnf))
      refine ⟨l - 1, d + 1, L, Q, ?_, by omega, by omega, by omega, hqe, (hi.skip hk (fun _ => by omega)).cong hdn⟩
      rw [wrapI (n := d + 1) (by omega)]; rfl
  · ((conv=>whnf);repeat((first|refine Ct ‹_› ?_|refine Cf ‹_› ?_|refine Ct rfl ?_|refine Cf rfl ?_|refine Bi rfl ?_|refine Bz rfl ?_|refine Lr ?_);conv=>whnf))
    refine ⟨l - 1, d + 1, L, Q, ?_, by omega, by omega, by omega, hqe, (hi.skip hk (fun ho => by rw [show opO O (nx m q0 d) = false from g2] at ho; cases ho)).cong hdn⟩
    rw [wrapI (n := d + 1) (by omega)]; rfl

def opU (b : Brd) (s : Stt) (side kind : Int) : Int → Bool := fun i => decide (costAt b kind i > 0) && !(jbk b s side i)

def opBs (b : Brd) (s : Stt) (side kind : Int) : List Bool := (List.range b.m.ter.length).map fun i : Nat => opU b s side kind i

theorem opBs_len (b : Brd) (s : Stt) (side kind : Int) : (opBs b s side kind).length = b.m.ter.length := by simp [opBs]

theorem F_openFor (b : Brd) (s : Stt) (h : StOk b s) (side kind : Int) (hd : side = 0 ∨ side = 1) (hk : 0 ≤ kind ∧ kind < b.r.knd.length) :
    Fun E0 52 [.agg b.cs, .agg s.cs, vI side, vI kind] [] (.v (.one (.own 0 (opBs b s side kind).length))) [(0, rwB (opBs b s side kind))] [] := by
  have hm := h.gb.wh.mul
  have hn := h.gb.n
  refine Fun_of_xc k52 rfl rfl (nrC (rwB_no _) nrN) ?_
  ((conv=>whnf);repeat((first|refine Ct ‹_› ?_|refine Cf ‹_› ?_|refine Ct rfl ?_|refine Cf rfl ?_|refine Bi rfl ?_|refine Bz rfl ?_|refine Lr ?_);conv=>whnf))
  refine Rw_i (rwB []) (rwB_nil _) ?_
  ((conv=>whnf);repeat((first|refine Ct ‹_› ?_|refine Cf ‹_› ?_|refine Ct rfl ?_|refine Cf rfl ?_|refine Bi rfl ?_|refine Bz rfl ?_|refine Lr ?_);conv=>whnf))
  refine Rw_i (rwB []) (rwB_nil _) ?_
  ((conv=>whnf);repeat((first|refine Ct ‹_› ?_|refine Cf ‹_› ?_|refine Ct rfl ?_|refine Cf rfl ?_|refine Bi rfl ?_|refine Bz rfl ?_|refine Lr ?_);conv=>whnf))
  refine WLoop_v2 ⟨[2, 3, 4, 5, 9, 15, 16], [4, 5], []⟩ (fun (t : Int) (out : List Bool) => hdS 37 [(2, .v (vI side)), (3, .v (vI kind)), (4, .v (.one (.box 4 0))), (5, .v (.one (.box 5 0))), (9, .v (.one (.own (vkey 9) out.length))), (15, .v (vI b.m.ter.length)), (16, .v (vI t))] [(4, b.cs), (5, s.cs)] [(vkey 9, rwB out)])
    (fun n t out => 0 ≤ t ∧ t + n = b.m.ter.length ∧ out = (List.range t.toNat).map fun i : Nat => opU b s side kind i) b.m.ter.length 0 [] rfl ⟨by omega, by omega, rfl⟩ ?_
  rintro n t out ⟨h1, h2, h3⟩
  have hol : out.length ≤ 100 := by rw [h3, List.length_map, List.length_range]; omega
  ((conv=>whnf);repeat((first|refine Ct ‹_› ?_|refine Cf ‹_› ?_|refine Ct rfl ?_|refine Cf rfl ?_|refine Bi rfl ?_|refine Bz rfl ?_|refine Lr ?_);conv=>whnf))
  refine Cnd_i (fun g => ?_) (fun g => ?_)
  · have ht := of_decide_eq_true g
    have hc := h.gb.cost (k := kind) (i := t) h1 ht hk.1 hk.2
    have hns : (List.range (t + 1).toNat).map (fun i : Nat => opU b s side kind i) = out ++ [opU b s side kind t] := by
      rw [range_succ' _ t h1, ← h3, show ((t.toNat : Nat) : Int) = t by omega]
    ((conv=>whnf);repeat((first|refine Ct ‹_› ?_|refine Cf ‹_› ?_|refine Ct rfl ?_|refine Cf rfl ?_|refine Bi rfl ?_|refine Bz rfl ?_|refine Lr ?_);conv=>whnf))
    (refine CallQ_some (F_enterCost b h.gb kind t h1 ht hk.1 hk.2) ?_ ?_ ?_; rfl; rfl); ((conv=>whnf);repeat((first|refine Ct ‹_› ?_|refine Cf ‹_› ?_|refine Ct rfl ?_|refine Cf rfl ?_|refine Bi rfl ?_|refine Bz rfl ?_|refine Lr ?_);conv=>whnf))
    refine Cnd_i (fun g2 => ?_) (fun g2 => ?_)
    · have e2 : opU b s side kind t = !(jbk b s side t) := by
        have : ¬ costAt b kind t = 0 := by simpa using g2
        rw [opU, decide_eq_true (by omega), Bool.true_and]
      ((conv=>whnf);repeat((first|refine Ct ‹_› ?_|refine Cf ‹_› ?_|refine Ct rfl ?_|refine Cf rfl ?_|refine Bi rfl ?_|refine Bz rfl ?_|refine Lr ?_);conv=>whnf))
      (refine CallQ_some (F_blockedFor b s h side t hd h1 ht) ?_ ?_ ?_; rfl; rfl); ((conv=>whnf);repeat((first|refine Ct ‹_› ?_|refine Cf ‹_› ?_|refine Ct rfl ?_|refine Cf rfl ?_|refine Bi rfl ?_|refine Bz rfl ?_|refine Lr ?_);conv=>whnf))
      refine Rw_self ?_
      ((conv=>whnf);repeat((first|refine Ct ‹_› ?_|refine Cf ‹_› ?_|refine Ct rfl ?_|refine Cf rfl ?_|refine Bi rfl ?_|refine Bz rfl ?_|refine Lr ?_);conv=>whnf))
      refine Bnd_i ?_ ?_
      · show out.length + 1 < _
        omega
      ((conv=>whnf);repeat((first|refine Ct ‹_› ?_|refine Cf ‹_› ?_|refine Ct rfl ?_|refine Cf rfl ?_|refine Bi rfl ?_|refine Bz rfl ?_|refine Lr ?_);conv=>whnf))
      refine Rw_i (rwB (out ++ [opU b s side kind t])) (rwB_app _ _ _ (by rw [e2]; rfl)) ?_
      ((conv=>whnf);repeat((first|refine Ct ‹_› ?_|refine Cf ‹_› ?_|refine Ct rfl ?_|refine Cf rfl ?_|refine Bi rfl ?_|refine Bz rfl ?_|refine Lr ?_);conv=>whnf))
      refine ⟨n - 1, t + 1, out ++ [opU b s side kind t], ?_, by omega, by omega, by omega, hns.symm⟩
      rw [wrapI (by omega)]; rfl
    · have e2 : opU b s side kind t = false := by
        have : costAt b kind t = 0 := by simpa using g2
        rw [opU, decide_eq_false (by omega), Bool.false_and]
      ((conv=>whnf);repeat((first|refine Ct ‹_› ?_|refine Cf ‹_› ?_|refine Ct rfl ?_|refine Cf rfl ?_|refine Bi rfl ?_|refine Bz rfl ?_|refine Lr ?_);conv=>whnf))
      refine Rw_self ?_
      ((conv=>whnf);repeat((first|refine Ct ‹_› ?_|refine Cf ‹_› ?_|refine Ct rfl ?_|refine Cf rfl ?_|refine Bi rfl ?_|refine Bz rfl ?_|refine Lr ?_);conv=>whnf))
      refine Bnd_i ?_ ?_
      · show out.length + 1 < _
        omega
      ((conv=>whnf);repeat((first|refine Ct ‹_› ?_|refine Cf ‹_› ?_|refine Ct rfl ?_|refine Cf rfl ?_|refine Bi rfl ?_|refine Bz rfl ?_|refine Lr ?_);conv=>whnf))
      refine Rw_i (rwB (out ++ [opU b s side kind t])) (rwB_app _ _ _ (by rw [e2]; rfl)) ?_
      ((conv=>whnf);repeat((first|refine Ct ‹_› ?_|refine Cf ‹_› ?_|refine Ct rfl ?_|refine Cf rfl ?_|refine Bi rfl ?_|refine Bz rfl ?_|refine Lr ?_);conv=>whnf))
      refine ⟨n - 1, t + 1, out ++ [opU b s side kind t], ?_, by omega, by omega, by omega, hns.symm⟩
      rw [wrapI (by omega)]; rfl
  · have ht := of_decide_eq_false g
    ((conv=>whnf);repeat((first|refine Ct ‹_› ?_|refine Cf ‹_› ?_|refine Ct rfl ?_|refine Cf rfl ?_|refine Bi rfl ?_|refine Bz rfl ?_|refine Lr ?_);conv=>whnf))
    rw [h3, show t.toNat = b.m.ter.length by omega, show (List.range b.m.ter.length).map (fun i : Nat => opU b s side kind i) = opBs b s side kind from rfl]
    exact ⟨rfl, rfl, rfl⟩

theorem F_jOpen (b : Brd) (s : Stt) (h : StOk b s) (side kind : Int) (hd : side = 0 ∨ side = 1) (hk : 0 ≤ kind ∧ kind < b.r.knd.length) :
    Fun E0 85 [.agg b.cs, .agg s.cs, vI side, vI kind] [] (.v (.one (.own 0 (opBs b s side kind).length))) [(0, rwB (opBs b s side kind))] [] := by
  have hm := h.gb.wh.mul
  have hn := h.gb.n
  have hbl := opBs_len b s side kind
  have hbg : ∀ j : Nat, j < b.m.ter.length → (opBs b s side kind).getD j false = opU b s side kind j := by
    intro j hj
    simp [opBs, List.getD_eq_getElem?_getD, hj]
  refine Fun_of_xc k85 rfl rfl (nrC (rwB_no _) nrN) ?_
  ((conv=>whnf);repeat((first|refine Ct ‹_› ?_|refine Cf ‹_› ?_|refine Ct rfl ?_|refine Cf rfl ?_|refine Bi rfl ?_|refine Bz rfl ?_|refine Lr ?_);conv=>whnf))
  refine Rw_i (rwB []) (rwB_nil _) ?_
  ((conv=>whnf);repeat((first|refine Ct ‹_› ?_|refine Cf ‹_› ?_|refine Ct rfl ?_|refine Cf rfl ?_|refine Bi rfl ?_|refine Bz rfl ?_|refine Lr ?_);conv=>whnf))
  (refine CallQ_some (F_mSizeB b h.gb) ?_ ?_ ?_; rfl; rfl); ((conv=>whnf);repeat((first|refine Ct ‹_› ?_|refine Cf ‹_› ?_|refine Ct rfl ?_|refine Cf rfl ?_|refine Bi rfl ?_|refine Bz rfl ?_|refine Lr ?_);conv=>whnf))
  refine Bnd_i (by omega) ?_
  ((conv=>whnf);repeat((first|refine Ct ‹_› ?_|refine Cf ‹_› ?_|refine Ct rfl ?_|refine Cf rfl ?_|refine Bi rfl ?_|refine Bz rfl ?_|refine Lr ?_);conv=>whnf))
  refine Rw_i (rwBn b.m.ter.length (List.replicate b.m.ter.length false)) (rwBn_zero _) ?_
  ((conv=>whnf);repeat((first|refine Ct ‹_› ?_|refine Cf ‹_› ?_|refine Ct rfl ?_|refine Cf rfl ?_|refine Bi rfl ?_|refine Bz rfl ?_|refine Lr ?_);conv=>whnf))
  refine WLoop_v2 ⟨[2, 3, 4, 5, 9, 16, 17], [4, 5], []⟩ (fun (t : Int) (out : List Bool) => hdS 38 [(2, .v (vI side)), (3, .v (vI kind)), (4, .v (.one (.box 4 0))), (5, .v (.one (.box 5 0))), (9, .v (.one (.own (vkey 9) b.m.ter.length))), (16, .v (vI b.m.ter.length)), (17, .v (vI t))] [(4, b.cs), (5, s.cs)] [(vkey 9, rwBn b.m.ter.length out)])
    (fun n t out => 0 ≤ t ∧ t + n = b.m.ter.length ∧ out.length = b.m.ter.length ∧ ∀ j : Nat, (j : Int) < t → out.getD j false = opU b s side kind j) b.m.ter.length 0 (List.replicate b.m.ter.length false) rfl ⟨by omega, by omega, by simp, fun j hj => by omega⟩ ?_
  rintro n t out ⟨h1, h2, hlen, h3⟩
  ((conv=>whnf);repeat((first|refine Ct ‹_› ?_|refine Cf ‹_› ?_|refine Ct rfl ?_|refine Cf rfl ?_|refine Bi rfl ?_|refine Bz rfl ?_|refine Lr ?_);conv=>whnf))
  refine Cnd_i (fun g => ?_) (fun g => ?_)
  · have ht := of_decide_eq_true g
    have hset : ∀ j : Nat, (j : Int) < t + 1 → (out.set t.toNat (opU b s side kind t)).getD j false = opU b s side kind j := by
      intro j hj
      rw [getD_setB _ _ _ _ (by omega)]
      split
      · rename_i e; rw [show (j : Int) = t by omega]
      · exact h3 j (by omega)
    ((conv=>whnf);repeat((first|refine Ct ‹_› ?_|refine Cf ‹_› ?_|refine Ct rfl ?_|refine Cf rfl ?_|refine Bi rfl ?_|refine Bz rfl ?_|refine Lr ?_);conv=>whnf))
    (refine CallQ_some (F_bCost b h.gb kind t h1 ht hk.1 hk.2) ?_ ?_ ?_; rfl; rfl); ((conv=>whnf);repeat((first|refine Ct ‹_› ?_|refine Cf ‹_› ?_|refine Ct rfl ?_|refine Cf rfl ?_|refine Bi rfl ?_|refine Bz rfl ?_|refine Lr ?_);conv=>whnf))
    refine Cnd_i (fun g2 => ?_) (fun g2 => ?_)
    · have e2 : opU b s side kind t = !(jbk b s side t) := by rw [opU, g2, Bool.true_and]
      ((conv=>whnf);repeat((first|refine Ct ‹_› ?_|refine Cf ‹_› ?_|refine Ct rfl ?_|refine Cf rfl ?_|refine Bi rfl ?_|refine Bz rfl ?_|refine Lr ?_);conv=>whnf))
      (refine CallQ_some (F_jBlocked b s h side t hd h1 ht) ?_ ?_ ?_; rfl; rfl); ((conv=>whnf);repeat((first|refine Ct ‹_› ?_|refine Cf ‹_› ?_|refine Ct rfl ?_|refine Cf rfl ?_|refine Bi rfl ?_|refine Bz rfl ?_|refine Lr ?_);conv=>whnf))
      refine Bnd_i (⟨h1, ht⟩) ?_; ((conv=>whnf);repeat((first|refine Ct ‹_› ?_|refine Cf ‹_› ?_|refine Ct rfl ?_|refine Cf rfl ?_|refine Bi rfl ?_|refine Bz rfl ?_|refine Lr ?_);conv=>whnf))
      refine Rw_i (rwBn b.m.ter.length (out.set t.toNat (opU b s side kind t))) (by rw [e2]; exact rwBn_set _ _ _ _ (by omega)) ?_
      ((conv=>whnf);repeat((first|refine Ct ‹_› ?_|refine Cf ‹_› ?_|refine Ct rfl ?_|refine Cf rfl ?_|refine Bi rfl ?_|refine Bz rfl ?_|refine Lr ?_);conv=>whnf))
      refine ⟨n - 1, t + 1, out.set t.toNat (opU b s side kind t), ?_, by omega, by omega, by omega, by simp [hlen], hset⟩
      rw [wrapI (by omega)]; rfl
    · have e2 : opU b s side kind t = false := by rw [opU, g2, Bool.false_and]
      ((conv=>whnf);repeat((first|refine Ct ‹_› ?_|refine Cf ‹_› ?_|refine Ct rfl ?_|refine Cf rfl ?_|refine Bi rfl ?_|refine Bz rfl ?_|refine Lr ?_);conv=>whnf))
      refine Bnd_i (⟨h1, ht⟩) ?_; ((conv=>whnf);repeat((first|refine Ct ‹_› ?_|refine Cf ‹_› ?_|refine Ct rfl ?_|refine Cf rfl ?_|refine Bi rfl ?_|refine Bz rfl ?_|refine Lr ?_);conv=>whnf))
      refine Rw_i (rwBn b.m.ter.length (out.set t.toNat (opU b s side kind t))) (by rw [e2]; exact rwBn_set _ _ _ _ (by omega)) ?_
      ((conv=>whnf);repeat((first|refine Ct ‹_› ?_|refine Cf ‹_› ?_|refine Ct rfl ?_|refine Cf rfl ?_|refine Bi rfl ?_|refine Bz rfl ?_|refine Lr ?_);conv=>whnf))
      refine ⟨n - 1, t + 1, out.set t.toNat (opU b s side kind t), ?_, by omega, by omega, by omega, by simp [hlen], hset⟩
      rw [wrapI (by omega)]; rfl
  · have ht := of_decide_eq_false g
    have e4 : opBs b s side kind = out := by
      apply List.ext_getElem (by omega)
      intro j h5 h6
      have h7 := h3 j (by omega)
      have h8 := hbg j (by omega)
      rw [List.getD_eq_getElem?_getD, List.getElem?_eq_getElem h6] at h7
      rw [List.getD_eq_getElem?_getD, List.getElem?_eq_getElem h5] at h8
      exact h8.trans h7.symm
    ((conv=>whnf);repeat((first|refine Ct ‹_› ?_|refine Cf ‹_› ?_|refine Ct rfl ?_|refine Cf rfl ?_|refine Bi rfl ?_|refine Bz rfl ?_|refine Lr ?_);conv=>whnf))
    rw [e4, rwBn_eq hlen, hlen]
    exact ⟨rfl, rfl, rfl⟩

/-! ### sources -/
def okSr (b : Brd) (F : List Int) : Bool := decide ((F.length : Int) ≤ 6) && okAv b F

theorem okSr_mem {b : Brd} {F : List Int} (h : okSr b F = true) : F.length ≤ 6 ∧ ∀ x ∈ F, 0 ≤ x ∧ x < b.m.ter.length := by
  simp only [okSr, okAv, Bool.and_eq_true] at h
  obtain ⟨h1, h2, _⟩ := h
  have h1 := of_decide_eq_true h1
  refine ⟨by omega, fun x hx => ?_⟩
  have := of_decide_eq_true (List.all_eq_true.1 h2 x hx)
  omega

theorem F_jSources (b : Brd) (h : GB b) (F : List Int) (hF : okL F) : Fun E0 38 [.agg b.cs, .one (roI F)] [] (.v (vB (okSr b F))) [] [] := by
  have hm := h.wh.mul
  have hn := h.n
  refine Fun_of_xc k38 rfl rfl (fun k q h => by cases h) ?_
  ((conv=>whnf);repeat((first|refine Ct ‹_› ?_|refine Cf ‹_› ?_|refine Ct rfl ?_|refine Cf rfl ?_|refine Bi rfl ?_|refine Bz rfl ?_|refine Lr ?_);conv=>whnf))
  refine Cnd_i (fun g => ?_) (fun g => ?_)
  · ((conv=>whnf);repeat((first|refine Ct ‹_› ?_|refine Cf ‹_› ?_|refine Ct rfl ?_|refine Cf rfl ?_|refine Bi rfl ?_|refine Bz rfl ?_|refine Lr ?_);conv=>whnf))
    (refine CallQ_some (F_mSizeB b h) ?_ ?_ ?_; rfl; rfl); ((conv=>whnf);repeat((first|refine Ct ‹_› ?_|refine Cf ‹_› ?_|refine Ct rfl ?_|refine Cf rfl ?_|refine Bi rfl ?_|refine Bz rfl ?_|refine Lr ?_);conv=>whnf))
    refine CallQ_eq (show _ = [.one (roI F), vI 0, vI ((b.m.ter.length : Int) - 1)] by rw [wrapI (by omega)]) ?_
    (refine CallQ_some (F_l1Rising F 0 ((b.m.ter.length : Int) - 1) hF.len) ?_ ?_ ?_; rfl; rfl); ((conv=>whnf);repeat((first|refine Ct ‹_› ?_|refine Cf ‹_› ?_|refine Ct rfl ?_|refine Cf rfl ?_|refine Bi rfl ?_|refine Bz rfl ?_|refine Lr ?_);conv=>whnf))
    rw [okSr, g, Bool.true_and]
    exact ⟨rfl, rfl, rfl⟩
  · ((conv=>whnf);repeat((first|refine Ct ‹_› ?_|refine Cf ‹_› ?_|refine Ct rfl ?_|refine Cf rfl ?_|refine Bi rfl ?_|refine Bz rfl ?_|refine Lr ?_);conv=>whnf))
    rw [okSr, g, Bool.false_and]
    exact ⟨rfl, rfl, rfl⟩

theorem F_areSources_1 (b : Brd) (h : GB b) (x : Int) : Fun E0 79 [vI x, .one (.pro 12 fun j => nth b.cs j)] [] (.v (vB (!In x 0 (b.m.ter.length - 1)))) [] [] := by
  have hm := h.wh.mul
  have hn := h.n
  refine Fun_of_xc k79 rfl rfl (fun k q h => by cases h) ?_
  ((conv=>whnf);repeat((first|refine Ct ‹_› ?_|refine Cf ‹_› ?_|refine Ct rfl ?_|refine Cf rfl ?_|refine Bi rfl ?_|refine Bz rfl ?_|refine Lr ?_);conv=>whnf))
  (refine CallQ_some (F_sizeOf b) ?_ ?_ ?_; rfl; rfl); ((conv=>whnf);repeat((first|refine Ct ‹_› ?_|refine Cf ‹_› ?_|refine Ct rfl ?_|refine Cf rfl ?_|refine Bi rfl ?_|refine Bz rfl ?_|refine Lr ?_);conv=>whnf))
  (refine CallQ_some (F_isIndex x b.m.ter.length ⟨by unfold i64; omega, by omega⟩) ?_ ?_ ?_; rfl; rfl); ((conv=>whnf);repeat((first|refine Ct ‹_› ?_|refine Cf ‹_› ?_|refine Ct rfl ?_|refine Cf rfl ?_|refine Bi rfl ?_|refine Bz rfl ?_|refine Lr ?_);conv=>whnf))
  exact ⟨rfl, rfl, rfl⟩

theorem F_areSources (b : Brd) (h : GB b) (F : List Int) (hF : okL F) : Fun E0 42 [.agg b.cs, .one (roI F)] [] (.v (vB (okSr b F))) [] [] := by
  have hany : (F.any fun x => !In x 0 (b.m.ter.length - 1)) = !(F.all fun x => In x 0 (b.m.ter.length - 1)) := by rw [List.not_all_eq_any_not]
  refine Fun_of_xc k42 rfl rfl (fun k q h => by cases h) ?_
  ((conv=>whnf);repeat((first|refine Ct ‹_› ?_|refine Cf ‹_› ?_|refine Ct rfl ?_|refine Cf rfl ?_|refine Bi rfl ?_|refine Bz rfl ?_|refine Lr ?_);conv=>whnf))
  refine Cnd_i (fun g => ?_) (fun g => ?_)
  · ((conv=>whnf);repeat((first|refine Ct ‹_› ?_|refine Cf ‹_› ?_|refine Ct rfl ?_|refine Cf rfl ?_|refine Bi rfl ?_|refine Bz rfl ?_|refine Lr ?_);conv=>whnf))
    (refine CallQ_some (F_increasing F hF.len) ?_ ?_ ?_; rfl; rfl); ((conv=>whnf);repeat((first|refine Ct ‹_› ?_|refine Cf ‹_› ?_|refine Ct rfl ?_|refine Cf rfl ?_|refine Bi rfl ?_|refine Bz rfl ?_|refine Lr ?_);conv=>whnf))
    refine Cnd_i (fun g2 => ?_) (fun g2 => ?_)
    · ((conv=>whnf);repeat((first|refine Ct ‹_› ?_|refine Cf ‹_› ?_|refine Ct rfl ?_|refine Cf rfl ?_|refine Bi rfl ?_|refine Bz rfl ?_|refine Lr ?_);conv=>whnf))
      (refine CallQ_some (F_ContainsFuncI F (fun x => !In x 0 (b.m.ter.length - 1)) 79 1 _ _ [.one (.pro 12 fun j => nth b.cs j)] rfl hF.len (fun x _ => F_areSources_1 b h x)) ?_ ?_ ?_; rfl; rfl); ((conv=>whnf);repeat((first|refine Ct ‹_› ?_|refine Cf ‹_› ?_|refine Ct rfl ?_|refine Cf rfl ?_|refine Bi rfl ?_|refine Bz rfl ?_|refine Lr ?_);conv=>whnf))
      rw [okSr, g, okAv, g2, hany, Bool.true_and, Bool.and_true, Bool.not_not]
      exact ⟨rfl, rfl, rfl⟩
    · ((conv=>whnf);repeat((first|refine Ct ‹_› ?_|refine Cf ‹_› ?_|refine Ct rfl ?_|refine Cf rfl ?_|refine Bi rfl ?_|refine Bz rfl ?_|refine Lr ?_);conv=>whnf))
      rw [okSr, g, okAv, g2, Bool.and_false, Bool.and_false]
      exact ⟨rfl, rfl, rfl⟩
  · ((conv=>whnf);repeat((first|refine Ct ‹_› ?_|refine Cf ‹_› ?_|refine Ct rfl ?_|refine Cf rfl ?_|refine Bi rfl ?_|refine Bz rfl ?_|refine Lr ?_);conv=>whnf))
    rw [okSr, g, Bool.false_and]
    exact ⟨rfl, rfl, rfl⟩

/-- how far each place is from the sources -/
noncomputable def splB (b : Brd) (s : Stt) (side kind : Int) (F : List Int) : List Int := spL b.m (opBs b s side kind) F

theorem splB_len (b : Brd) (s : Stt) (side kind : Int) (F : List Int) : (splB b s side kind F).length = b.m.ter.length := by unfold splB; rw [spL_len, opBs_len]

theorem splB_low (b : Brd) (s : Stt) (side kind : Int) (F : List Int) (j : Nat) (hj : j < b.m.ter.length) : -1 ≤ (splB b s side kind F).getD j 0 := (spL_ok b.m (opBs b s side kind) F).low j (by rw [opBs_len]; exact hj)

theorem F_jFarB (b : Brd) (h : GB b) (s : Stt) (side kind : Int) (F : List Int) (hF : okSr b F = true) : Fun E0 50 [.agg b.m.cs, .one (roB (opBs b s side kind)), .one (roI F)] [] (.v (.one (.own 0 (splB b s side kind F).length))) [(0, rwI (splB b s side kind F))] [] := by
  obtain ⟨h1, h2⟩ := okSr_mem hF
  have hn := h.n
  have hl := opBs_len b s side kind
  exact F_jFar b.m h.wh _ F (by omega) h1 (fun x hx => by have := h2 x hx; omega)

theorem F_spreadB (b : Brd) (h : GB b) (s : Stt) (side kind : Int) (F : List Int) (hF : okSr b F = true) : Fun E0 90 [.agg b.m.cs, .one (roB (opBs b s side kind)), .one (roI F)] [] (.v (.one (.own 0 (splB b s side kind F).length))) [(0, rwI (splB b s side kind F))] [] := by
  obtain ⟨h1, h2⟩ := okSr_mem hF
  have hn := h.n
  have hl := opBs_len b s side kind
  exact F_spread b.m h.wh _ F (by omega) h1 (fun x hx => by have := h2 x hx; omega)

/-! ### is a unit in supply -/
noncomputable def okSu (b : Brd) (s : Stt) (t : Int) (F : List Int) : Bool := okHas b s t && okSr b F

theorem SuOk {b : Brd} (ho : b.Ok) {s : Stt} {t : Int} {F : List Int} (h : okSu b s t F = true) : (StOk b s ∧ 0 ≤ t ∧ t < s.un.length) ∧ okSr b F = true := by
  simp only [okSu, Bool.and_eq_true] at h
  exact ⟨StOk.of_has ho h.1, h.2⟩

theorem F_jInput (b : Brd) (ho : b.Ok) (s : Stt) (hs : s.Ok) (t : Int) (F : List Int) (hF : okL F) : Fun E0 48 [.agg b.cs, .agg s.cs, vI t, .one (roI F)] [] (.v (vB (okSu b s t F))) [] [] := by
  refine Fun_of_xc k48 rfl rfl (fun k q h => by cases h) ?_
  ((conv=>whnf);repeat((first|refine Ct ‹_› ?_|refine Cf ‹_› ?_|refine Ct rfl ?_|refine Cf rfl ?_|refine Bi rfl ?_|refine Bz rfl ?_|refine Lr ?_);conv=>whnf))
  (refine CallQ_some (F_sHas b ho s hs t) ?_ ?_ ?_; rfl; rfl); ((conv=>whnf);repeat((first|refine Ct ‹_› ?_|refine Cf ‹_› ?_|refine Ct rfl ?_|refine Cf rfl ?_|refine Bi rfl ?_|refine Bz rfl ?_|refine Lr ?_);conv=>whnf))
  refine Cnd_i (fun g => ?_) (fun g => ?_)
  · have h := (StOk.of_has ho g).1
    ((conv=>whnf);repeat((first|refine Ct ‹_› ?_|refine Cf ‹_› ?_|refine Ct rfl ?_|refine Cf rfl ?_|refine Bi rfl ?_|refine Bz rfl ?_|refine Lr ?_);conv=>whnf))
    (refine CallQ_some (F_jSources b h.gb F hF) ?_ ?_ ?_; rfl; rfl); ((conv=>whnf);repeat((first|refine Ct ‹_› ?_|refine Cf ‹_› ?_|refine Ct rfl ?_|refine Cf rfl ?_|refine Bi rfl ?_|refine Bz rfl ?_|refine Lr ?_);conv=>whnf))
    rw [okSu, g, Bool.true_and]
    exact ⟨rfl, rfl, rfl⟩
  · ((conv=>whnf);repeat((first|refine Ct ‹_› ?_|refine Cf ‹_› ?_|refine Ct rfl ?_|refine Cf rfl ?_|refine Bi rfl ?_|refine Bz rfl ?_|refine Lr ?_);conv=>whnf))
    rw [okSu, g, Bool.false_and]
    exact ⟨rfl, rfl, rfl⟩

theorem F_isSupply (b : Brd) (ho : b.Ok) (s : Stt) (hs : s.Ok) (t : Int) (F : List Int) (hF : okL F) : Fun E0 51 [.agg b.cs, .agg s.cs, vI t, .one (roI F)] [] (.v (vB (okSu b s t F))) [] [] := by
  refine Fun_of_xc k51 rfl rfl (fun k q h => by cases h) ?_
  ((conv=>whnf);repeat((first|refine Ct ‹_› ?_|refine Cf ‹_› ?_|refine Ct rfl ?_|refine Cf rfl ?_|refine Bi rfl ?_|refine Bz rfl ?_|refine Lr ?_);conv=>whnf))
  (refine CallQ_some (F_hasUnit b ho s hs t) ?_ ?_ ?_; rfl; rfl); ((conv=>whnf);repeat((first|refine Ct ‹_› ?_|refine Cf ‹_› ?_|refine Ct rfl ?_|refine Cf rfl ?_|refine Bi rfl ?_|refine Bz rfl ?_|refine Lr ?_);conv=>whnf))
  refine Cnd_i (fun g => ?_) (fun g => ?_)
  · have h := (StOk.of_has ho g).1
    ((conv=>whnf);repeat((first|refine Ct ‹_› ?_|refine Cf ‹_› ?_|refine Ct rfl ?_|refine Cf rfl ?_|refine Bi rfl ?_|refine Bz rfl ?_|refine Lr ?_);conv=>whnf))
    (refine CallQ_some (F_areSources b h.gb F hF) ?_ ?_ ?_; rfl; rfl); ((conv=>whnf);repeat((first|refine Ct ‹_› ?_|refine Cf ‹_› ?_|refine Ct rfl ?_|refine Cf rfl ?_|refine Bi rfl ?_|refine Bz rfl ?_|refine Lr ?_);conv=>whnf))
    rw [okSu, g, Bool.true_and]
    exact ⟨rfl, rfl, rfl⟩
  · ((conv=>whnf);repeat((first|refine Ct ‹_› ?_|refine Cf ‹_› ?_|refine Ct rfl ?_|refine Cf rfl ?_|refine Bi rfl ?_|refine Bz rfl ?_|refine Lr ?_);conv=>whnf))
    rw [okSu, g, Bool.false_and]
    exact ⟨rfl, rfl, rfl⟩

noncomputable abbrev farU (b : Brd) (s : Stt) (u : Unt) (F : List Int) : Int := (splB b s u.side u.kind F).getD u.at'.toNat 0

/-- is a unit in supply; how far it is from its sources -/
noncomputable def inSu (b : Brd) (s : Stt) (u : Unt) (F : List Int) : Bool := if decide (u.at' < 0) = true then false else In (farU b s u F) 0 b.r.supply

noncomputable def wySu (b : Brd) (s : Stt) (u : Unt) (F : List Int) : Int := if decide (u.at' < 0) = true then -1 else if decide (farU b s u F > b.r.supply) = true then -1 else farU b s u F

theorem wySu_in {b : Brd} {s : Stt} {u : Unt} (hU : UnOk b u) (F : List Int) : decide (wySu b s u F ≥ 0) = inSu b s u F ∧ (inSu b s u F = true → wySu b s u F = farU b s u F ∧ 0 ≤ u.at' ∧ u.at' < b.m.ter.length ∧ 0 ≤ farU b s u F ∧ farU b s u F ≤ b.r.supply) ∧ (inSu b s u F = false → wySu b s u F < 0) := by
  have ha := hU.at'
  unfold wySu inSu
  by_cases h : u.at' < 0
  · rw [decide_eq_true h]; simp
  · rw [decide_eq_false h]
    simp only [Bool.false_eq_true, if_false]
    have hl := splB_low b s u.side u.kind F u.at'.toNat (by omega)
    unfold In farU
    generalize (splB b s u.side u.kind F).getD u.at'.toNat 0 = f at hl ⊢
    by_cases h2 : f > b.r.supply
    · rw [decide_eq_true h2, decide_eq_false (show ¬ (0 ≤ f ∧ f ≤ b.r.supply) by omega)]; simp
    · rw [decide_eq_false h2]
      simp only [Bool.false_eq_true, if_false]
      by_cases h3 : 0 ≤ f
      · rw [decide_eq_true (show 0 ≤ f ∧ f ≤ b.r.supply by omega), decide_eq_true (show f ≥ 0 by omega)]
        exact ⟨rfl, fun _ => ⟨by trivial, by omega, by omega, h3, by omega⟩, fun h => by simp at h⟩
      · rw [decide_eq_false (show ¬ (0 ≤ f ∧ f ≤ b.r.supply) by omega), decide_eq_false (show ¬ f ≥ 0 by omega)]
        exact ⟨rfl, fun h => by simp at h, fun _ => by omega⟩

theorem UnOk.sd {b : Brd} {u : Unt} (h : UnOk b u) : u.side = 0 ∨ u.side = 1 := by have := h.side; omega

theorem F_jUnit (b : Brd) (s : Stt) (h : StOk b s) (t : Int) (t0 : 0 ≤ t) (t1 : t < s.un.length) (F : List Int) (hF : okSr b F = true) :
    Fun E0 49 [.agg b.cs, .agg s.cs, vI t, .one (roI F)] [] (.tup [.one (.own 0 (opBs b s (s.un.getD t.toNat Unt.d).side (s.un.getD t.toNat Unt.d).kind).length), .one (.own 1 (splB b s (s.un.getD t.toNat Unt.d).side (s.un.getD t.toNat Unt.d).kind F).length)]) [(0, rwB (opBs b s (s.un.getD t.toNat Unt.d).side (s.un.getD t.toNat Unt.d).kind)), (1, rwI (splB b s (s.un.getD t.toNat Unt.d).side (s.un.getD t.toNat Unt.d).kind F))] [] := by
  have hU := h.un _ (getD_memT (d := Unt.d) t0 t1)
  refine Fun_of_xc k49 rfl rfl (nrC (rwB_no _) (nrC (rwI_no _) nrN)) ?_
  ((conv=>whnf);repeat((first|refine Ct ‹_› ?_|refine Cf ‹_› ?_|refine Ct rfl ?_|refine Cf rfl ?_|refine Bi rfl ?_|refine Bz rfl ?_|refine Lr ?_);conv=>whnf))
  refine Rw_i (rwB []) (rwB_nil _) ?_
  ((conv=>whnf);repeat((first|refine Ct ‹_› ?_|refine Cf ‹_› ?_|refine Ct rfl ?_|refine Cf rfl ?_|refine Bi rfl ?_|refine Bz rfl ?_|refine Lr ?_);conv=>whnf))
  refine Rw_i (rwI []) (rwI_nil _) ?_
  ((conv=>whnf);repeat((first|refine Ct ‹_› ?_|refine Cf ‹_› ?_|refine Ct rfl ?_|refine Cf rfl ?_|refine Bi rfl ?_|refine Bz rfl ?_|refine Lr ?_);conv=>whnf))
  refine Bnd_i (⟨t0, t1⟩) ?_; ((conv=>whnf);repeat((first|refine Ct ‹_› ?_|refine Cf ‹_› ?_|refine Ct rfl ?_|refine Cf rfl ?_|refine Bi rfl ?_|refine Bz rfl ?_|refine Lr ?_);conv=>whnf))
  (refine CallQ_some (F_jOpen b s h _ _ hU.sd hU.kind) ?_ ?_ ?_; rfl; rfl); ((conv=>whnf);repeat((first|refine Ct ‹_› ?_|refine Cf ‹_› ?_|refine Ct rfl ?_|refine Cf rfl ?_|refine Bi rfl ?_|refine Bz rfl ?_|refine Lr ?_);conv=>whnf))
  (refine CallQ_some (F_jFarB b h.gb s _ _ F hF) ?_ ?_ ?_; rfl; rfl); ((conv=>whnf);repeat((first|refine Ct ‹_› ?_|refine Cf ‹_› ?_|refine Ct rfl ?_|refine Cf rfl ?_|refine Bi rfl ?_|refine Bz rfl ?_|refine Lr ?_);conv=>whnf))
  exact ⟨rfl, rfl, rfl⟩

theorem F_jIn (b : Brd) (s : Stt) (h : StOk b s) (t : Int) (t0 : 0 ≤ t) (t1 : t < s.un.length) (F : List Int) (hF : okSr b F = true) :
    Fun E0 40 [.agg b.cs, .agg s.cs, vI t, .one (roI F)] [] (.v (vB (inSu b s (s.un.getD t.toNat Unt.d) F))) [] [] := by
  have hU := h.un _ (getD_memT (d := Unt.d) t0 t1)
  have ha := hU.at'
  refine Fun_of_xc k40 rfl rfl (fun k q h => by cases h) ?_
  ((conv=>whnf);repeat((first|refine Ct ‹_› ?_|refine Cf ‹_› ?_|refine Ct rfl ?_|refine Cf rfl ?_|refine Bi rfl ?_|refine Bz rfl ?_|refine Lr ?_);conv=>whnf))
  refine Bnd_i (⟨t0, t1⟩) ?_; ((conv=>whnf);repeat((first|refine Ct ‹_› ?_|refine Cf ‹_› ?_|refine Ct rfl ?_|refine Cf rfl ?_|refine Bi rfl ?_|refine Bz rfl ?_|refine Lr ?_);conv=>whnf))
  refine Cnd_i (fun g => ?_) (fun g => ?_)
  · ((conv=>whnf);repeat((first|refine Ct ‹_› ?_|refine Cf ‹_› ?_|refine Ct rfl ?_|refine Cf rfl ?_|refine Bi rfl ?_|refine Bz rfl ?_|refine Lr ?_);conv=>whnf))
    rw [inSu, if_pos g]
    exact ⟨rfl, rfl, rfl⟩
  have g0 := of_decide_eq_false g
  have hl := splB_len b s (s.un.getD t.toNat Unt.d).side (s.un.getD t.toNat Unt.d).kind F
  rw [inSu, if_neg (by rw [g]; simp)]
  ((conv=>whnf);repeat((first|refine Ct ‹_› ?_|refine Cf ‹_› ?_|refine Ct rfl ?_|refine Cf rfl ?_|refine Bi rfl ?_|refine Bz rfl ?_|refine Lr ?_);conv=>whnf))
  (refine CallQ_some (F_jUnit b s h t t0 t1 F hF) ?_ ?_ ?_; rfl; rfl); ((conv=>whnf);repeat((first|refine Ct ‹_› ?_|refine Cf ‹_› ?_|refine Ct rfl ?_|refine Cf rfl ?_|refine Bi rfl ?_|refine Bz rfl ?_|refine Lr ?_);conv=>whnf))
  refine Bnd_i (⟨by omega, by omega⟩) ?_; ((conv=>whnf);repeat((first|refine Ct ‹_› ?_|refine Cf ‹_› ?_|refine Ct rfl ?_|refine Cf rfl ?_|refine Bi rfl ?_|refine Bz rfl ?_|refine Lr ?_);conv=>whnf))
  (refine CallQ_some (F_l1In _ _ _) ?_ ?_ ?_; rfl; rfl); ((conv=>whnf);repeat((first|refine Ct ‹_› ?_|refine Cf ‹_› ?_|refine Ct rfl ?_|refine Cf rfl ?_|refine Bi rfl ?_|refine Bz rfl ?_|refine Lr ?_);conv=>whnf))
  exact ⟨rfl, rfl, rfl⟩

theorem F_supplyWay (b : Brd) (s : Stt) (h : StOk b s) (u : Unt) (hU : UnOk b u) (F : List Int) (hF : okSr b F = true) :
    Fun E0 55 [.agg b.cs, .agg u.cs, .one (roB (opBs b s u.side u.kind)), .one (roI F)] [] (.v (vI (wySu b s u F))) [] [] := by
  have ha := hU.at'
  refine Fun_of_xc k55 rfl rfl (fun k q h => by cases h) ?_
  ((conv=>whnf);repeat((first|refine Ct ‹_› ?_|refine Cf ‹_› ?_|refine Ct rfl ?_|refine Cf rfl ?_|refine Bi rfl ?_|refine Bz rfl ?_|refine Lr ?_);conv=>whnf))
  refine Cnd_i (fun g => ?_) (fun g => ?_)
  · ((conv=>whnf);repeat((first|refine Ct ‹_› ?_|refine Cf ‹_› ?_|refine Ct rfl ?_|refine Cf rfl ?_|refine Bi rfl ?_|refine Bz rfl ?_|refine Lr ?_);conv=>whnf))
    rw [wySu, if_pos g]
    exact ⟨rfl, rfl, rfl⟩
  have g0 := of_decide_eq_false g
  have hl := splB_len b s u.side u.kind F
  rw [wySu, if_neg (by rw [g]; simp)]
  ((conv=>whnf);repeat((first|refine Ct ‹_› ?_|refine Cf ‹_› ?_|refine Ct rfl ?_|refine Cf rfl ?_|refine Bi rfl ?_|refine Bz rfl ?_|refine Lr ?_);conv=>whnf))
  (refine CallQ_some (F_spreadB b h.gb s u.side u.kind F hF) ?_ ?_ ?_; rfl; rfl); ((conv=>whnf);repeat((first|refine Ct ‹_› ?_|refine Cf ‹_› ?_|refine Ct rfl ?_|refine Cf rfl ?_|refine Bi rfl ?_|refine Bz rfl ?_|refine Lr ?_);conv=>whnf))
  refine Bnd_i (⟨by omega, by omega⟩) ?_; ((conv=>whnf);repeat((first|refine Ct ‹_› ?_|refine Cf ‹_› ?_|refine Ct rfl ?_|refine Cf rfl ?_|refine Bi rfl ?_|refine Bz rfl ?_|refine Lr ?_);conv=>whnf))
  refine Cnd_i (fun g2 => ?_) (fun g2 => ?_)
  · ((conv=>whnf);repeat((first|refine Ct ‹_› ?_|refine Cf ‹_› ?_|refine Ct rfl ?_|refine Cf rfl ?_|refine Bi rfl ?_|refine Bz rfl ?_|refine Lr ?_);conv=>whnf))
    rw [if_pos g2]
    exact ⟨rfl, rfl, rfl⟩
  · ((conv=>whnf);repeat((first|refine Ct ‹_› ?_|refine Cf ‹_› ?_|refine Ct rfl ?_|refine Cf rfl ?_|refine Bi rfl ?_|refine Bz rfl ?_|refine Lr ?_);conv=>whnf))
    rw [if_neg (by rw [g2]; simp)]
    exact ⟨rfl, rfl, rfl⟩
end Go.Proofs.YthleikolhjdffaaGreatDoor.Ab
