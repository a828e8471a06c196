/- Contracts of the functions that FnExactSupplyPath reaches, by the abstract machine (part 3).
   Conditions: none. -/
import Derived.Test.YtlnfcafoandngaaGreatDoorCSupplyPath2
set_option linter.unusedVariables false
set_option linter.unusedSimpArgs false
namespace Go.Proofs.YtlnfcafoandngaaGreatDoor.Ab
open Go Go.RowKit
attribute [local irreducible] Cnd Bnd Rw CallQ CallR Bts Isn Lc WLoop
set_option maxRecDepth 100000
set_option maxHeartbeats 1000000
theorem F_supplyWay (b : Brd) (s : Stt) (h : StOk b s) (u : Unt) (hU : UnOk b u) (F : List Int) (hF : okSr b F = true) :
    Fun E0 55 [.agg b.cs, .agg u.cs, .one (roB (opBs b s u.side u.kind)), .one (roI F)] [] (.v (vI (wySu b s u F))) [] [] := by
  have ha := hU.at'
  refine Fun_of_xc k55 rfl rfl (fun k q h => by cases h) ?_
  ((conv=>whnf);repeat((first|refine Ct ‹_› ?_|refine Cf ‹_› ?_|refine Ct rfl ?_|refine Cf rfl ?_|refine Bi rfl ?_|refine Bz rfl ?_|refine Lr ?_);conv=>whnf))
  refine Cnd_i (fun g => ?_) (fun g => ?_)
  · ((conv=>whnf);repeat((first|refine Ct ‹_› ?_|refine Cf ‹_› ?_|refine Ct rfl ?_|refine Cf rfl ?_|refine Bi rfl ?_|refine Bz rfl ?_|refine Lr ?_);conv=>whnf))
    rw [wySu, if_pos g]
    exact ⟨rfl, rfl, rfl⟩
  have g0 := of_decide_eq_false g
  have hl := splB_len b s u.side u.kind F
  rw [wySu, if_neg (by rw [g]; simp)]
  ((conv=>whnf);repeat((first|refine Ct ‹_› ?_|refine Cf ‹_› ?_|refine Ct rfl ?_|refine Cf rfl ?_|refine Bi rfl ?_|refine Bz rfl ?_|refine Lr ?_);conv=>whnf))
  (refine CallQ_some (F_spreadB b h.gb s u.side u.kind F hF) ?_ ?_ ?_; rfl; rfl); ((conv=>whnf);repeat((first|refine Ct ‹_› ?_|refine Cf ‹_› ?_|refine Ct rfl ?_|refine Cf rfl ?_|refine Bi rfl ?_|refine Bz rfl ?_|refine Lr ?_);conv=>whnf))
  refine Bnd_i (⟨by omega, by omega⟩) ?_; ((conv=>whnf);repeat((first|refine Ct ‹_› ?_|refine Cf ‹_› ?_|refine Ct rfl ?_|refine Cf rfl ?_|refine Bi rfl ?_|refine Bz rfl ?_|refine Lr ?_);conv=>whnf))
  refine Cnd_i (fun g2 => ?_) (fun g2 => ?_)
  · ((conv=>whnf);repeat((first|refine Ct ‹_› ?_|refine Cf ‹_› ?_|refine Ct rfl ?_|refine Cf rfl ?_|refine Bi rfl ?_|refine Bz rfl ?_|refine Lr ?_);conv=>whnf))
    rw [if_pos g2]
    exact ⟨rfl, rfl, rfl⟩
  · ((conv=>whnf);repeat((first|refine Ct ‹_› ?_|refine Cf ‹_› ?_|refine Ct rfl ?_|refine Cf rfl ?_|refine Bi rfl ?_|refine Bz rfl ?_|refine Lr ?_);conv=>whnf))
    rw [if_neg (by rw [g2]; simp)]
    exact ⟨rfl, rfl, rfl⟩

theorem F_wayOf (b : Brd) (s : Stt) (h : StOk b s) (u : Unt) (hU : UnOk b u) (F : List Int) (hF : okSr b F = true) :
    Fun E0 30 [.agg b.cs, .agg s.cs, .agg u.cs, .one (roI F)] [] (.v (vI (wySu b s u F))) [] [] := by
  refine Fun_of_xc k30 rfl rfl (fun k q h => by cases h) ?_
  ((conv=>whnf);repeat((first|refine Ct ‹_› ?_|refine Cf ‹_› ?_|refine Ct rfl ?_|refine Cf rfl ?_|refine Bi rfl ?_|refine Bz rfl ?_|refine Lr ?_);conv=>whnf))
  (refine CallQ_some (F_openFor b s h u.side u.kind hU.sd hU.kind) ?_ ?_ ?_; rfl; rfl); ((conv=>whnf);repeat((first|refine Ct ‹_› ?_|refine Cf ‹_› ?_|refine Ct rfl ?_|refine Cf rfl ?_|refine Bi rfl ?_|refine Bz rfl ?_|refine Lr ?_);conv=>whnf))
  (refine CallQ_some (F_supplyWay b s h u hU F hF) ?_ ?_ ?_; rfl; rfl); ((conv=>whnf);repeat((first|refine Ct ‹_› ?_|refine Cf ‹_› ?_|refine Ct rfl ?_|refine Cf rfl ?_|refine Bi rfl ?_|refine Bz rfl ?_|refine Lr ?_);conv=>whnf))
  exact ⟨rfl, rfl, rfl⟩

theorem GB.sup {b : Brd} (h : GB b) : 0 ≤ b.r.supply ∧ b.r.supply ≤ 20 := by
  have hn := h.nums
  simp only [numsOk, Bool.and_eq_true] at hn
  exact of_decide_eq_true hn.1.2

/-! ### the least place -/
open Classical in
noncomputable def lstI (P : Int → Prop) : Nat → Int
  | 0 => -1
  | n + 1 => if lstI P n < 0 ∧ P n then n else lstI P n

open Classical in
theorem lstI_succ (P : Int → Prop) (n : Nat) : lstI P (n + 1) = if lstI P n < 0 ∧ P n then (n : Int) else lstI P n := rfl

theorem lstI_spec (P : Int → Prop) (n : Nat) : (lstI P n = -1 ∧ ∀ i : Nat, i < n → ¬ P i) ∨ (0 ≤ lstI P n ∧ lstI P n < n ∧ P (lstI P n) ∧ ∀ i : Nat, (i : Int) < lstI P n → ¬ P i) := by
  induction n with
  | zero => exact .inl ⟨rfl, fun i hi => by omega⟩
  | succ n ih =>
    rw [lstI_succ]
    by_cases h : lstI P n < 0 ∧ P n
    · rw [if_pos h]
      rcases ih with ⟨h1, h2⟩ | ⟨h1, _⟩
      · exact .inr ⟨by omega, by omega, h.2, fun i hi => h2 i (by omega)⟩
      · omega
    · rw [if_neg h]
      rcases ih with ⟨h1, h2⟩ | ⟨h1, h2, h3, h4⟩
      · refine .inl ⟨h1, fun i hi => ?_⟩
        by_cases e : i = n
        · subst e; exact fun hp => h ⟨by omega, hp⟩
        · exact h2 i (by omega)
      · exact .inr ⟨h1, by omega, h3, h4⟩

theorem lstI_eq {P : Int → Prop} {n : Nat} {z : Int} (h0 : 0 ≤ z) (h1 : z < n) (hz : P z) (hl : ∀ i : Nat, i < n → P i → z ≤ i) : lstI P n = z := by
  rcases lstI_spec P n with ⟨_, h2⟩ | ⟨a1, a2, a3, a4⟩
  · exact absurd (by rw [show ((z.toNat : Nat) : Int) = z by omega]; exact hz) (h2 z.toNat (by omega))
  · have b1 := hl (lstI P n).toNat (by omega) (by rw [show (((lstI P n).toNat : Nat) : Int) = lstI P n by omega]; exact a3)
    by_cases e : z < lstI P n
    · exact absurd (by rw [show ((z.toNat : Nat) : Int) = z by omega]; exact hz) (a4 z.toNat (by omega))
    · omega

/-! ### ways and paths -/
theorem Wy.zero {g : Int → Int → Prop} {op : Int → Bool} {S : Int → Prop} {k c : Int} (h : Wy g op S k c) (hc : c = 0) : S k := by
  cases h with
  | src hs => exact hs
  | step h1 _ _ => have := h1.pos; omega

theorem Wy.split {g : Int → Int → Prop} {op : Int → Bool} {S : Int → Prop} {k c : Int} (h : Wy g op S k c) : ∃ s, S s ∧ Wy g op (fun y => y = s) k c := by
  induction h with
  | @src k hs => exact ⟨k, hs, .src rfl⟩
  | step _ h2 h3 ih =>
    obtain ⟨s, h4, h5⟩ := ih
    exact ⟨s, h4, .step h5 h2 h3⟩

structure SpD (N : Nat) (g : Int → Int → Prop) (op : Int → Bool) (S : Int → Prop) (a : Int) (L B : List Int) (n : Int) : Prop where
  hL : DstS N g op S L
  hB : DstS N g op (fun k => k = a) B
  sym : ∀ j k, g j k → g k j
  gb : ∀ j k, g j k → (0 ≤ j ∧ j < N)
  so : ∀ k, S k → op k = true
  sb : ∀ k, S k → 0 ≤ k ∧ k < N
  ab : 0 ≤ a ∧ a < N
  n0 : 0 ≤ n
  hn : L.getD a.toNat 0 = n
namespace SpD

variable {N : Nat} {g : Int → Int → Prop} {op : Int → Bool} {S : Int → Prop} {a n : Int} {L B : List Int}

theorem wL (h : SpD N g op S a L B n) {k : Int} (hk : 0 ≤ k ∧ k < N) (h0 : 0 ≤ L.getD k.toNat 0) : Wy g op S k (L.getD k.toNat 0) := by
  have := h.hL.snd k.toNat (by omega) h0
  rwa [show ((k.toNat : Nat) : Int) = k by omega] at this

theorem wB (h : SpD N g op S a L B n) {k : Int} (hk : 0 ≤ k ∧ k < N) (h0 : 0 ≤ B.getD k.toNat 0) : Wy g op (fun y => y = a) k (B.getD k.toNat 0) := by
  have := h.hB.snd k.toNat (by omega) h0
  rwa [show ((k.toNat : Nat) : Int) = k by omega] at this

theorem lL (h : SpD N g op S a L B n) {k c : Int} (hk : 0 ≤ k ∧ k < N) (hw : Wy g op S k c) : 0 ≤ L.getD k.toNat 0 ∧ L.getD k.toNat 0 ≤ c :=
  h.hL.lst k.toNat c (by omega) (by rwa [show ((k.toNat : Nat) : Int) = k by omega])

theorem lB (h : SpD N g op S a L B n) {k c : Int} (hk : 0 ≤ k ∧ k < N) (hw : Wy g op (fun y => y = a) k c) : 0 ≤ B.getD k.toNat 0 ∧ B.getD k.toNat 0 ≤ c :=
  h.hB.lst k.toNat c (by omega) (by rwa [show ((k.toNat : Nat) : Int) = k by omega])

theorem oa (h : SpD N g op S a L B n) : op a = true := (h.wL h.ab (by rw [h.hn]; exact h.n0)).opn h.so

theorem bo (h : SpD N g op S a L B n) {k : Int} (hk : 0 ≤ k ∧ k < N) (h0 : 0 ≤ B.getD k.toNat 0) : op k = true := (h.wB hk h0).opn (fun k hk => by rw [hk]; exact h.oa)

theorem b0 (h : SpD N g op S a L B n) {k : Int} (hk : 0 ≤ k ∧ k < N) : B.getD k.toNat 0 = 0 ↔ k = a := by
  constructor
  · intro e; exact (h.wB hk (by omega)).zero e
  · intro e
    have := h.lB hk (.src e)
    omega

theorem l0 (h : SpD N g op S a L B n) {k : Int} (hk : 0 ≤ k ∧ k < N) : L.getD k.toNat 0 = 0 ↔ S k := by
  constructor
  · intro e; exact (h.wL hk (by omega)).zero e
  · intro e
    have := h.lL hk (.src e)
    omega

theorem tri (h : SpD N g op S a L B n) {k : Int} (hk : 0 ≤ k ∧ k < N) (h1 : 0 ≤ L.getD k.toNat 0) (h2 : 0 ≤ B.getD k.toNat 0) : n ≤ L.getD k.toNat 0 + B.getD k.toNat 0 := by
  have w := (h.wL hk h1).app ((h.wB hk h2).rev h.sym h.oa)
  have := (h.lL h.ab w).2
  rw [h.hn] at this; exact this

theorem stp (h : SpD N g op S a L B n) {j k : Int} (hg : g j k) (ho : op k = true) (h0 : 0 ≤ L.getD j.toNat 0) : 0 ≤ L.getD k.toNat 0 ∧ L.getD k.toNat 0 ≤ L.getD j.toNat 0 + 1 :=
  h.lL (h.gb _ _ (h.sym _ _ hg)) (.step (h.wL (h.gb _ _ hg) h0) hg ho)

theorem start (h : SpD N g op S a L B n) : ∃ k, S k ∧ B.getD k.toNat 0 = n := by
  have w := h.wL h.ab (by rw [h.hn]; exact h.n0)
  rw [h.hn] at w
  obtain ⟨s, h1, h2⟩ := w.split
  have hs := h.sb s h1
  have b1 := h.lB hs (h2.rev h.sym (h.so s h1))
  have b2 := h.tri hs (by have := (h.l0 hs).2 h1; omega) b1.1
  have b3 := (h.l0 hs).2 h1
  exact ⟨s, h1, by omega⟩

/-- a place that is nearer to the end lies on a least way -/
theorem on (h : SpD N g op S a L B n) {z k : Int} (hg : g z k) (h1 : L.getD z.toNat 0 + B.getD z.toNat 0 = n) (h0 : 0 ≤ L.getD z.toNat 0) (hb : 0 ≤ B.getD k.toNat 0) (h2 : B.getD k.toNat 0 = B.getD z.toNat 0 - 1) : L.getD k.toNat 0 = L.getD z.toNat 0 + 1 := by
  have hk := h.gb _ _ (h.sym _ _ hg)
  have s := h.stp hg (h.bo hk hb) h0
  have t := h.tri hk s.1 hb
  omega

theorem next (h : SpD N g op S a L B n) {z : Int} (hz : 0 ≤ z ∧ z < N) (h0 : 1 ≤ B.getD z.toNat 0) : ∃ k : Int, (0 ≤ k ∧ k < N) ∧ g z k ∧ B.getD k.toNat 0 = B.getD z.toNat 0 - 1 := by
  obtain ⟨j, h1, h2, h3⟩ := h.hB.last hz h.gb h0
  exact ⟨j, h1, h.sym _ _ h2, h3⟩

end SpD

def pP (g : Int → Int → Prop) (L B : List Int) (n t p i : Int) : Prop := L.getD i.toNat 0 = t ∧ B.getD i.toNat 0 = n - t ∧ (t = 0 ∨ g p i)

noncomputable def pth (N : Nat) (g : Int → Int → Prop) (L B : List Int) (n : Int) : Nat → Int
  | 0 => lstI (pP g L B n 0 0) N
  | t + 1 => lstI (pP g L B n (t + 1 : Nat) (pth N g L B n t)) N

theorem pth_ok {N : Nat} {g : Int → Int → Prop} {op : Int → Bool} {S : Int → Prop} {a n : Int} {L B : List Int} (h : SpD N g op S a L B n) (t : Nat) (ht : (t : Int) ≤ n) :
    (0 ≤ pth N g L B n t ∧ pth N g L B n t < N) ∧ L.getD (pth N g L B n t).toNat 0 = t ∧ B.getD (pth N g L B n t).toNat 0 = n - t := by
  induction t with
  | zero =>
    obtain ⟨k, h1, h2⟩ := h.start
    have hk := h.sb k h1
    rcases lstI_spec (pP g L B n 0 0) N with ⟨_, e⟩ | ⟨e1, e2, e3, _⟩
    · exact absurd ⟨by rw [show ((k.toNat : Nat) : Int) = k by omega]; exact (h.l0 hk).2 h1, by rw [show ((k.toNat : Nat) : Int) = k by omega]; omega, .inl rfl⟩ (e k.toNat (by omega))
    · exact ⟨⟨e1, e2⟩, e3.1, e3.2.1⟩
  | succ t ih =>
    obtain ⟨i1, i2, i3⟩ := ih (by omega)
    obtain ⟨k, hk, h1, h2⟩ := h.next i1 (by omega)
    have h3 := h.on h1 (by omega) (by omega) (by omega) h2
    rcases lstI_spec (pP g L B n (t + 1 : Nat) (pth N g L B n t)) N with ⟨_, e⟩ | ⟨e1, e2, e3, _⟩
    · refine absurd ⟨?_, ?_, .inr ?_⟩ (e k.toNat (by omega)) <;> rw [show ((k.toNat : Nat) : Int) = k by omega]
      · omega
      · omega
      · exact h1
    · exact ⟨⟨e1, e2⟩, e3.1, e3.2.1⟩

/-- the first place: of the sources that are nearest the first -/
theorem pth_0 {N : Nat} {g : Int → Int → Prop} {op : Int → Bool} {S : Int → Prop} {a n : Int} {L B : List Int} (h : SpD N g op S a L B n) {z : Int} (hz : 0 ≤ z ∧ z < N) (hS : S z) (hb : 0 ≤ B.getD z.toNat 0)
    (hl : ∀ k, S k → 0 ≤ B.getD k.toNat 0 → B.getD z.toNat 0 ≤ B.getD k.toNat 0 ∧ (B.getD z.toNat 0 = B.getD k.toNat 0 → z ≤ k)) : pth N g L B n 0 = z := by
  obtain ⟨k, h1, h2⟩ := h.start
  have hn0 := h.n0
  have e1 := (hl k h1 (by omega)).1
  have e2 := (h.l0 hz).2 hS
  have e3 := h.tri hz (by omega) hb
  have hc : ∀ i : Nat, ((i : Int)).toNat = i := fun i => by omega
  exact lstI_eq hz.1 hz.2 ⟨e2, by omega, .inl rfl⟩ (fun i hi hp => by
    have hi' : 0 ≤ (i : Int) ∧ (i : Int) < N := by omega
    have hs := (h.l0 hi').1 hp.1
    have hb2 := hp.2.1
    exact (hl i hs (by omega)).2 (by omega))

/-- the next place: of the neighbours that are nearer to the end the first -/
theorem pth_s {N : Nat} {g : Int → Int → Prop} {op : Int → Bool} {S : Int → Prop} {a n : Int} {L B : List Int} (h : SpD N g op S a L B n) (t : Nat) (ht : (t : Int) < n) {z : Int} (hz : 0 ≤ z ∧ z < N) (hg : g (pth N g L B n t) z) (hb : B.getD z.toNat 0 = n - t - 1)
    (hl : ∀ k, g (pth N g L B n t) k → B.getD k.toNat 0 = n - t - 1 → z ≤ k) : pth N g L B n (t + 1) = z := by
  obtain ⟨i1, i2, i3⟩ := pth_ok h t (by omega)
  have h3 := h.on hg (by omega) (by omega) (by omega) (by omega)
  exact lstI_eq hz.1 hz.2 ⟨by omega, by omega, .inr hg⟩ (fun i hi hp => by
    have hb2 := hp.2.1
    exact hl i (hp.2.2.elim (fun e => by omega) id) (by omega))

theorem bkU_len (b : Brd) (s : Stt) (u : Unt) : (spL b.m (opBs b s u.side u.kind) [u.at']).length = b.m.ter.length := by rw [spL_len, opBs_len]

noncomputable abbrev ptU (b : Brd) (s : Stt) (u : Unt) (F : List Int) : Nat → Int := pth b.m.ter.length (gN b.m) (splB b s u.side u.kind F) (spL b.m (opBs b s u.side u.kind) [u.at']) (farU b s u F)

theorem SpD_of {b : Brd} {s : Stt} (h : StOk b s) {u : Unt} {F : List Int} (hF : okSr b F = true) (h1 : 0 ≤ u.at' ∧ u.at' < b.m.ter.length) (h2 : 0 ≤ farU b s u F) :
    SpD b.m.ter.length (gN b.m) (opO (opBs b s u.side u.kind)) (srcS F (opO (opBs b s u.side u.kind))) u.at' (splB b s u.side u.kind F) (spL b.m (opBs b s u.side u.kind) [u.at']) (farU b s u F) := by
  have hn := h.gb.n
  have hm := h.gb.wh.mul
  have hol := opBs_len b s u.side u.kind
  have hL := spL_ok b.m (opBs b s u.side u.kind) F
  have hB := spL_ok b.m (opBs b s u.side u.kind) [u.at']
  rw [hol] at hL hB
  have hr := (okSr_mem hF).2
  have so : ∀ k, srcS F (opO (opBs b s u.side u.kind)) k → opO (opBs b s u.side u.kind) k = true := fun k hk => hk.2
  have oa : opO (opBs b s u.side u.kind) u.at' = true := by
    have := (hL.snd u.at'.toNat (by omega) h2).opn so
    rwa [show ((u.at'.toNat : Nat) : Int) = u.at' by omega] at this
  have e : srcS [u.at'] (opO (opBs b s u.side u.kind)) = fun k => k = u.at' := by
    funext k
    refine propext ⟨fun hk => by have := hk.1; simpa using this, fun hk => ⟨by rw [hk]; simp, by rw [hk]; exact oa⟩⟩
  rw [e] at hB
  exact ⟨hL, hB, fun j k hg => gN_sym h.gb.wh hg, fun j k hg => by have := hg.1; omega, so, fun k hk => hr k hk.1, h1, h2, rfl⟩

theorem rwI_one (x : Int) : RowEq (litRow false 1 [[cI x]]) (rwI [x]) := by
  refine ⟨rfl, rfl, rfl, fun i j hi hj => ?_⟩
  have hi : i < 1 := hi
  obtain rfl : i = 0 := by omega
  have hj : j < 1 := hj
  obtain rfl : j = 0 := by omega
  rfl

noncomputable abbrev spP (b : Brd) (s : Stt) (u : Unt) (F : List Int) : List Int := (List.range (farU b s u F + 1).toNat).map (ptU b s u F)

noncomputable def spR (b : Brd) (s : Stt) (t : Int) (F : List Int) : List Int × Bool :=
  if okSu b s t F = true then if inSu b s (s.un.getD t.toNat Unt.d) F = true then (spP b s (s.un.getD t.toNat Unt.d) F, true) else ([], false) else ([], false)

theorem F_SupplyPath (b : Brd) (ho : b.Ok) (s : Stt) (hs : s.Ok) (t : Int) (F : List Int) (hF : okL F) :
    Fun E0 6 [.agg b.cs, .agg s.cs, vI t, .one (roI F)] [] (.tup [.one (.own 0 (spR b s t F).1.length), vB (spR b s t F).2]) [(0, rwI (spR b s t F).1)] [] := by
  refine Fun_of_xc k6 rfl rfl (nrC (rwI_no _) nrN) ?_
  ((conv=>whnf);repeat((first|refine Ct ‹_› ?_|refine Cf ‹_› ?_|refine Ct rfl ?_|refine Cf rfl ?_|refine Bi rfl ?_|refine Bz rfl ?_|refine Lr ?_);conv=>whnf))
  refine Rw_i (rwI []) (rwI_nil _) ?_
  ((conv=>whnf);repeat((first|refine Ct ‹_› ?_|refine Cf ‹_› ?_|refine Ct rfl ?_|refine Cf rfl ?_|refine Bi rfl ?_|refine Bz rfl ?_|refine Lr ?_);conv=>whnf))
  (refine CallQ_some (F_jInput b ho s hs t F hF) ?_ ?_ ?_; rfl; rfl); ((conv=>whnf);repeat((first|refine Ct ‹_› ?_|refine Cf ‹_› ?_|refine Ct rfl ?_|refine Cf rfl ?_|refine Bi rfl ?_|refine Bz rfl ?_|refine Lr ?_);conv=>whnf))
  refine Cnd_i (fun g => ?_) (fun g => ?_)
  · have e0 : okSu b s t F = false := by first | (rwa [Bool.not_eq_true'] at g) | (rwa [Bool.not_eq_false'] at g) | (simpa using g)
    ((conv=>whnf);repeat((first|refine Ct ‹_› ?_|refine Cf ‹_› ?_|refine Ct rfl ?_|refine Cf rfl ?_|refine Bi rfl ?_|refine Bz rfl ?_|refine Lr ?_);conv=>whnf))
    refine Rw_i (rwI []) (rwI_nil _) ?_
    ((conv=>whnf);repeat((first|refine Ct ‹_› ?_|refine Cf ‹_› ?_|refine Ct rfl ?_|refine Cf rfl ?_|refine Bi rfl ?_|refine Bz rfl ?_|refine Lr ?_);conv=>whnf))
    rw [spR, e0]
    exact ⟨rfl, rfl, rfl⟩
  have e0 : okSu b s t F = true := by first | (rwa [Bool.not_eq_true'] at g) | (rwa [Bool.not_eq_false'] at g) | (simpa using g)
  obtain ⟨⟨h, t0, t1⟩, hF6⟩ := SuOk ho e0
  have hU := h.un _ (getD_memT (d := Unt.d) t0 t1)
  have hn := h.gb.n
  have hm := h.gb.wh.mul
  have hsp := h.gb.sup
  ((conv=>whnf);repeat((first|refine Ct ‹_› ?_|refine Cf ‹_› ?_|refine Ct rfl ?_|refine Cf rfl ?_|refine Bi rfl ?_|refine Bz rfl ?_|refine Lr ?_);conv=>whnf))
  (refine CallQ_some (F_jIn b s h t t0 t1 F hF6) ?_ ?_ ?_; rfl; rfl); ((conv=>whnf);repeat((first|refine Ct ‹_› ?_|refine Cf ‹_› ?_|refine Ct rfl ?_|refine Cf rfl ?_|refine Bi rfl ?_|refine Bz rfl ?_|refine Lr ?_);conv=>whnf))
  refine Cnd_i (fun g => ?_) (fun g => ?_)
  · have e1 : inSu b s (s.un.getD t.toNat Unt.d) F = false := by first | (rwa [Bool.not_eq_true'] at g) | (rwa [Bool.not_eq_false'] at g) | (simpa using g)
    ((conv=>whnf);repeat((first|refine Ct ‹_› ?_|refine Cf ‹_› ?_|refine Ct rfl ?_|refine Cf rfl ?_|refine Bi rfl ?_|refine Bz rfl ?_|refine Lr ?_);conv=>whnf))
    refine Rw_i (rwI []) (rwI_nil _) ?_
    ((conv=>whnf);repeat((first|refine Ct ‹_› ?_|refine Cf ‹_› ?_|refine Ct rfl ?_|refine Cf rfl ?_|refine Bi rfl ?_|refine Bz rfl ?_|refine Lr ?_);conv=>whnf))
    rw [spR, e0, if_pos rfl, e1]
    exact ⟨rfl, rfl, rfl⟩
  have e1 : inSu b s (s.un.getD t.toNat Unt.d) F = true := by first | (rwa [Bool.not_eq_true'] at g) | (rwa [Bool.not_eq_false'] at g) | (simpa using g)
  have hR : spR b s t F = ((List.range (farU b s (s.un.getD t.toNat Unt.d) F + 1).toNat).map (ptU b s (s.un.getD t.toNat Unt.d) F), true) := by rw [spR, e0, if_pos rfl, e1, if_pos rfl]
  rw [hR]
  ((conv=>whnf);repeat((first|refine Ct ‹_› ?_|refine Cf ‹_› ?_|refine Ct rfl ?_|refine Cf rfl ?_|refine Bi rfl ?_|refine Bz rfl ?_|refine Lr ?_);conv=>whnf))
  (refine CallQ_some (F_jUnit b s h t t0 t1 F hF6) ?_ ?_ ?_; rfl; rfl); ((conv=>whnf);repeat((first|refine Ct ‹_› ?_|refine Cf ‹_› ?_|refine Ct rfl ?_|refine Cf rfl ?_|refine Bi rfl ?_|refine Bz rfl ?_|refine Lr ?_);conv=>whnf))
  refine Bnd_i (⟨t0, t1⟩) ?_; ((conv=>whnf);repeat((first|refine Ct ‹_› ?_|refine Cf ‹_› ?_|refine Ct rfl ?_|refine Cf rfl ?_|refine Bi rfl ?_|refine Bz rfl ?_|refine Lr ?_);conv=>whnf))
  generalize s.un.getD t.toNat Unt.d = u at hU e1 ⊢
  obtain ⟨w1, w2, w3, w4, w5⟩ := (wySu_in hU F).2.1 e1
  have D := SpD_of h hF6 ⟨w2, w3⟩ w4
  have hP : ∀ k : Nat, (k : Int) ≤ farU b s u F → (0 ≤ ptU b s u F k ∧ ptU b s u F k < b.m.ter.length) ∧ (splB b s u.side u.kind F).getD (ptU b s u F k).toNat 0 = k ∧ (spL b.m (opBs b s u.side u.kind) [u.at']).getD (ptU b s u F k).toNat 0 = farU b s u F - k := pth_ok D
  have hpS : ∀ k : Nat, ptU b s u F (k + 1) = lstI (pP (gN b.m) (splB b s u.side u.kind F) (spL b.m (opBs b s u.side u.kind) [u.at']) (farU b s u F) (k + 1 : Nat) (ptU b s u F k)) b.m.ter.length := fun k => rfl
  have hp0 : ptU b s u F 0 = lstI (pP (gN b.m) (splB b s u.side u.kind F) (spL b.m (opBs b s u.side u.kind) [u.at']) (farU b s u F) 0 0) b.m.ter.length := rfl
  have hfl := splB_len b s u.side u.kind F
  have hol := opBs_len b s u.side u.kind
  have hbl := bkU_len b s u
  have hlow := splB_low b s u.side u.kind F
  have hx6 : ∀ x ∈ [u.at'], 0 ≤ x ∧ x < ((opBs b s u.side u.kind).length : Int) := fun x hx => by
    have : x = u.at' := by simpa using hx
    omega
  refine Bnd_i (⟨by omega, by omega⟩) ?_; ((conv=>whnf);repeat((first|refine Ct ‹_› ?_|refine Cf ‹_› ?_|refine Ct rfl ?_|refine Cf rfl ?_|refine Bi rfl ?_|refine Bz rfl ?_|refine Lr ?_);conv=>whnf))
  refine Rw_i (rwI [u.at']) (rwI_one _) ?_
  ((conv=>whnf);repeat((first|refine Ct ‹_› ?_|refine Cf ‹_› ?_|refine Ct rfl ?_|refine Cf rfl ?_|refine Bi rfl ?_|refine Bz rfl ?_|refine Lr ?_);conv=>whnf))
  (refine CallQ_some (F_jFar b.m h.gb.wh (opBs b s u.side u.kind) [u.at'] (by omega) (by simp) hx6) ?_ ?_ ?_; rfl; rfl); ((conv=>whnf);repeat((first|refine Ct ‹_› ?_|refine Cf ‹_› ?_|refine Ct rfl ?_|refine Cf rfl ?_|refine Bi rfl ?_|refine Bz rfl ?_|refine Lr ?_);conv=>whnf))
  generalize hn' : farU b s u F = n at *
  generalize hpt : ptU b s u F = pt at *
  generalize hO : opBs b s u.side u.kind = O at *
  generalize hLL : splB b s u.side u.kind F = L at *
  generalize hBB : spL b.m O [u.at'] = B at *
  rw [D.hn]
  refine Rw_i (rwI []) (rwI_nil _) ?_
  ((conv=>whnf);repeat((first|refine Ct ‹_› ?_|refine Cf ‹_› ?_|refine Ct rfl ?_|refine Cf rfl ?_|refine Bi rfl ?_|refine Bz rfl ?_|refine Lr ?_);conv=>whnf))
  refine WLoop_v2 ⟨[4, 10, 11, 13, 14, 15, 16], [4], []⟩ (fun (q : Int) (out : List Int) => hdS 121 [(4, .v (.one (.box 4 0))), (10, .v (.one (.own (vkey 10) O.length))), (11, .v (.one (.own (vkey 11) L.length))), (13, .v (vI n)), (14, .v (.one (.own (vkey 14) B.length))), (15, .v (.one (.own (vkey 15) out.length))), (16, .v (vI q))] [(4, b.cs)] [(vkey 10, rwB O), (vkey 11, rwI L), (vkey 14, rwI B), (vkey 15, rwI out)])
    (fun l q out => 0 ≤ q ∧ q + l = n + 1 ∧ out = (List.range q.toNat).map pt) (n + 1).toNat 0 [] rfl ⟨by omega, by omega, rfl⟩ ?_
  rintro l q out ⟨q1, q2, q3⟩
  have hol' : out.length = q.toNat := by rw [q3]; simp
  ((conv=>whnf);repeat((first|refine Ct ‹_› ?_|refine Cf ‹_› ?_|refine Ct rfl ?_|refine Cf rfl ?_|refine Bi rfl ?_|refine Bz rfl ?_|refine Lr ?_);conv=>whnf))
  refine Cnd_i (fun g => ?_) (fun g => ?_)
  rotate_left
  · have hq := of_decide_eq_false g
    ((conv=>whnf);repeat((first|refine Ct ‹_› ?_|refine Cf ‹_› ?_|refine Ct rfl ?_|refine Cf rfl ?_|refine Bi rfl ?_|refine Bz rfl ?_|refine Lr ?_);conv=>whnf))
    rw [q3, show q.toNat = (n + 1).toNat by omega]
    exact ⟨rfl, rfl, rfl⟩
  have hq := of_decide_eq_true g
  have hgd : ∀ k : Nat, k < q.toNat → out.getD k 0 = pt k := by
    intro k hk
    rw [q3]; simp [List.getD_eq_getElem?_getD, hk]
  have hpr : 1 ≤ q → 0 ≤ out.getD (q - 1).toNat 0 ∧ out.getD (q - 1).toNat 0 < b.m.ter.length := by
    intro h1
    rw [hgd _ (by omega)]
    exact (hP (q - 1).toNat (by omega)).1
  have hq9 : lstI (pP (gN b.m) L B n q (out.getD (q - 1).toNat 0)) b.m.ter.length = pt q.toNat := by
    by_cases e : q = 0
    · subst e
      rw [q3]; exact hp0.symm
    · obtain ⟨k, rfl⟩ : ∃ k : Nat, q = k + 1 := ⟨(q - 1).toNat, by omega⟩
      rw [show ((k : Int) + 1).toNat = k + 1 by omega, hpS, show ((k : Int) + 1 - 1).toNat = k by omega]
      rw [hgd k (by omega)]; rfl
  have hw2 : 1 ≤ q → IntKind.i64.wrap (q - 1) = q - 1 := fun _ => wrapI (by omega)
  generalize hpv : out.getD (q - 1).toNat 0 = pv at hpr hq9
  ((conv=>whnf);repeat((first|refine Ct ‹_› ?_|refine Cf ‹_› ?_|refine Ct rfl ?_|refine Cf rfl ?_|refine Bi rfl ?_|refine Bz rfl ?_|refine Lr ?_);conv=>whnf))
  refine WLoop_v2 ⟨[4, 10, 11, 13, 14, 15, 16, 17, 65, 66], [4], []⟩ (fun (i : Int) (best : Int) => hdS 121 [(4, .v (.one (.box 4 0))), (10, .v (.one (.own (vkey 10) O.length))), (11, .v (.one (.own (vkey 11) L.length))), (13, .v (vI n)), (14, .v (.one (.own (vkey 14) B.length))), (15, .v (.one (.own (vkey 15) out.length))), (16, .v (vI q)), (17, .v (vI best)), (65, .v (vI O.length)), (66, .v (vI i))] [(4, b.cs)] [(vkey 10, rwB O), (vkey 11, rwI L), (vkey 14, rwI B), (vkey 15, rwI out)])
    (fun l i best => 0 ≤ i ∧ i + l = O.length ∧ best = lstI (pP (gN b.m) L B n q pv) i.toNat) O.length 0 (-1) rfl ⟨by omega, by omega, rfl⟩ ?_
  rintro l2 i best ⟨i1, i2, i3⟩
  ((conv=>whnf);repeat((first|refine Ct ‹_› ?_|refine Cf ‹_› ?_|refine Ct rfl ?_|refine Cf rfl ?_|refine Bi rfl ?_|refine Bz rfl ?_|refine Lr ?_);conv=>whnf))
  refine Cnd_i (fun g => ?_) (fun g => ?_)
  rotate_left
  · have hi := of_decide_eq_false g
    have hbe : best = pt q.toNat := by rw [i3, show i.toNat = b.m.ter.length by omega]; exact hq9
    ((conv=>whnf);repeat((first|refine Ct ‹_› ?_|refine Cf ‹_› ?_|refine Ct rfl ?_|refine Cf rfl ?_|refine Bi rfl ?_|refine Bz rfl ?_|refine Lr ?_);conv=>whnf))
    refine Rw_self ?_
    ((conv=>whnf);repeat((first|refine Ct ‹_› ?_|refine Cf ‹_› ?_|refine Ct rfl ?_|refine Cf rfl ?_|refine Bi rfl ?_|refine Bz rfl ?_|refine Lr ?_);conv=>whnf))
    refine Bnd_i ?_ ?_
    · show out.length + 1 < _
      omega
    ((conv=>whnf);repeat((first|refine Ct ‹_› ?_|refine Cf ‹_› ?_|refine Ct rfl ?_|refine Cf rfl ?_|refine Bi rfl ?_|refine Bz rfl ?_|refine Lr ?_);conv=>whnf))
    refine Rw_i (rwI (out ++ [best])) (rwI_app _ _ _ rfl) ?_
    ((conv=>whnf);repeat((first|refine Ct ‹_› ?_|refine Cf ‹_› ?_|refine Ct rfl ?_|refine Cf rfl ?_|refine Bi rfl ?_|refine Bz rfl ?_|refine Lr ?_);conv=>whnf))
    refine ⟨l - 1, q + 1, out ++ [best], ?_, by omega, by omega, by omega, ?_⟩
    · rw [wrapI (by omega)]; rfl
    · rw [range_succ' _ q q1, ← q3, hbe]
  have hi := of_decide_eq_true g
  have hstep : ∀ best', best' = lstI (pP (gN b.m) L B n q pv) (i.toNat + 1) → best' = lstI (pP (gN b.m) L B n q pv) (i + 1).toNat := by
    intro best' e; rw [e, show (i + 1).toNat = i.toNat + 1 by omega]
  have hno : ¬ pP (gN b.m) L B n q pv i → best = lstI (pP (gN b.m) L B n q pv) (i + 1).toNat := by
    intro e
    refine hstep _ ?_
    rw [lstI_succ, if_neg (fun hh => e (by have := hh.2; rwa [show ((i.toNat : Nat) : Int) = i by omega] at this))]
    exact i3
  ((conv=>whnf);repeat((first|refine Ct ‹_› ?_|refine Cf ‹_› ?_|refine Ct rfl ?_|refine Cf rfl ?_|refine Bi rfl ?_|refine Bz rfl ?_|refine Lr ?_);conv=>whnf))
  refine Bnd_i (⟨by omega, by omega⟩) ?_; ((conv=>whnf);repeat((first|refine Ct ‹_› ?_|refine Cf ‹_› ?_|refine Ct rfl ?_|refine Cf rfl ?_|refine Bi rfl ?_|refine Bz rfl ?_|refine Lr ?_);conv=>whnf))
  refine Cnd_i (fun g => ?_) (fun g => ?_)
  · have e : ¬ L.getD i.toNat 0 = q := by simpa using g
    ((conv=>whnf);repeat((first|refine Ct ‹_› ?_|refine Cf ‹_› ?_|refine Ct rfl ?_|refine Cf rfl ?_|refine Bi rfl ?_|refine Bz rfl ?_|refine Lr ?_);conv=>whnf))
    refine ⟨l2 - 1, i + 1, best, ?_, by omega, by omega, by omega, hno (fun hh => e hh.1)⟩
    rw [wrapI (by omega)]; rfl
  have e4 : L.getD i.toNat 0 = q := by simpa using g
  ((conv=>whnf);repeat((first|refine Ct ‹_› ?_|refine Cf ‹_› ?_|refine Ct rfl ?_|refine Cf rfl ?_|refine Bi rfl ?_|refine Bz rfl ?_|refine Lr ?_);conv=>whnf))
  refine Bnd_i (⟨by omega, by omega⟩) ?_; ((conv=>whnf);repeat((first|refine Ct ‹_› ?_|refine Cf ‹_› ?_|refine Ct rfl ?_|refine Cf rfl ?_|refine Bi rfl ?_|refine Bz rfl ?_|refine Lr ?_);conv=>whnf))
  refine Cnd_i (fun g => ?_) (fun g => ?_)
  · have e : ¬ B.getD i.toNat 0 = n - q := by
      have : ¬ B.getD i.toNat 0 = IntKind.i64.wrap (n - q) := by simpa using g
      rwa [wrapI (by omega)] at this
    ((conv=>whnf);repeat((first|refine Ct ‹_› ?_|refine Cf ‹_› ?_|refine Ct rfl ?_|refine Cf rfl ?_|refine Bi rfl ?_|refine Bz rfl ?_|refine Lr ?_);conv=>whnf))
    refine ⟨l2 - 1, i + 1, best, ?_, by omega, by omega, by omega, hno (fun hh => e hh.2.1)⟩
    rw [wrapI (by omega)]; rfl
  have e5 : B.getD i.toNat 0 = n - q := by
    have : B.getD i.toNat 0 = IntKind.i64.wrap (n - q) := by simpa using g
    rwa [wrapI (by omega)] at this
  ((conv=>whnf);repeat((first|refine Ct ‹_› ?_|refine Cf ‹_› ?_|refine Ct rfl ?_|refine Cf rfl ?_|refine Bi rfl ?_|refine Bz rfl ?_|refine Lr ?_);conv=>whnf))
  refine WLoop_v2 ⟨[4, 10, 11, 13, 14, 15, 16, 17, 18, 19, 20, 65, 66], [4], []⟩ (fun (nr : Bool) (d : Int) => hdS 121 [(4, .v (.one (.box 4 0))), (10, .v (.one (.own (vkey 10) O.length))), (11, .v (.one (.own (vkey 11) L.length))), (13, .v (vI n)), (14, .v (.one (.own (vkey 14) B.length))), (15, .v (.one (.own (vkey 15) out.length))), (16, .v (vI q)), (17, .v (vI best)), (18, .v (vI i)), (19, .v (vB nr)), (20, .v (vI d)), (65, .v (vI O.length)), (66, .v (vI i))] [(4, b.cs)] [(vkey 10, rwB O), (vkey 11, rwI L), (vkey 14, rwI B), (vkey 15, rwI out)])
    (fun n2 nr d => 0 ≤ d ∧ d + n2 = 6 ∧ (nr = true ↔ q = 0 ∨ ∃ e, 0 ≤ e ∧ e < d ∧ nx b.m pv e = i)) 6 (q == 0) 0 rfl ⟨by omega, by omega, ⟨fun hh => .inl (by simpa using hh), fun hh => hh.elim (fun h9 => by simpa using h9) (fun ⟨e, e1, e2, _⟩ => by omega)⟩⟩ ?_
  rintro l3 nr d ⟨d0, d1', d7⟩
  have hfin : ∀ (hall : q = 0 ∨ d = 6), (nr = true ↔ pP (gN b.m) L B n q pv i) := by
    intro hall
    rw [d7]
    constructor
    · rintro (h9 | ⟨e, e1, e2, e3⟩)
      · exact ⟨e4, e5, .inl h9⟩
      · by_cases hq0 : q = 0
        · exact ⟨e4, e5, .inl hq0⟩
        · have := hpr (by omega)
          exact ⟨e4, e5, .inr ⟨by omega, i1, e, e1, by omega, e3.symm⟩⟩
    · rintro ⟨_, _, h9 | ⟨_, _, e, e1, e2, e3⟩⟩
      · exact .inl h9
      · by_cases hq0 : q = 0
        · exact .inl hq0
        · exact .inr ⟨e, e1, by omega, e3.symm⟩
  ((conv=>whnf);repeat((first|refine Ct ‹_› ?_|refine Cf ‹_› ?_|refine Ct rfl ?_|refine Cf rfl ?_|refine Bi rfl ?_|refine Bz rfl ?_|refine Lr ?_);conv=>whnf))
  refine Cnd_i (fun g => ?_) (fun g => ?_)
  rotate_left
  · have hd := of_decide_eq_false g
    have hf := hfin (.inr (by omega))
    ((conv=>whnf);repeat((first|refine Ct ‹_› ?_|refine Cf ‹_› ?_|refine Ct rfl ?_|refine Cf rfl ?_|refine Bi rfl ?_|refine Bz rfl ?_|refine Lr ?_);conv=>whnf))
    cases nr with
    | false =>
      ((conv=>whnf);repeat((first|refine Ct ‹_› ?_|refine Cf ‹_› ?_|refine Ct rfl ?_|refine Cf rfl ?_|refine Bi rfl ?_|refine Bz rfl ?_|refine Lr ?_);conv=>whnf))
      refine ⟨l2 - 1, i + 1, best, ?_, by omega, by omega, by omega, hno (fun hh => by have := hf.2 hh; cases this)⟩
      rw [wrapI (by omega)]; rfl
    | true =>
      ((conv=>whnf);repeat((first|refine Ct ‹_› ?_|refine Cf ‹_› ?_|refine Ct rfl ?_|refine Cf rfl ?_|refine Bi rfl ?_|refine Bz rfl ?_|refine Lr ?_);conv=>whnf))
      refine Cnd_i (fun g => ?_) (fun g => ?_)
      · have gb := of_decide_eq_true g
        ((conv=>whnf);repeat((first|refine Ct ‹_› ?_|refine Cf ‹_› ?_|refine Ct rfl ?_|refine Cf rfl ?_|refine Bi rfl ?_|refine Bz rfl ?_|refine Lr ?_);conv=>whnf))
        refine ⟨l2 - 1, i + 1, i, ?_, by omega, by omega, by omega, hstep _ ?_⟩
        · rw [wrapI (by omega)]; rfl
        · rw [lstI_succ, show ((i.toNat : Nat) : Int) = i by omega, if_pos ⟨by omega, hf.1 rfl⟩]
      · have gb := of_decide_eq_false g
        ((conv=>whnf);repeat((first|refine Ct ‹_› ?_|refine Cf ‹_› ?_|refine Ct rfl ?_|refine Cf rfl ?_|refine Bi rfl ?_|refine Bz rfl ?_|refine Lr ?_);conv=>whnf))
        refine ⟨l2 - 1, i + 1, best, ?_, by omega, by omega, by omega, hstep _ ?_⟩
        · rw [wrapI (by omega)]; rfl
        · rw [lstI_succ, if_neg (fun hh => gb (by have := hh.1; omega))]; exact i3
  have hd := of_decide_eq_true g
  ((conv=>whnf);repeat((first|refine Ct ‹_› ?_|refine Cf ‹_› ?_|refine Ct rfl ?_|refine Cf rfl ?_|refine Bi rfl ?_|refine Bz rfl ?_|refine Lr ?_);conv=>whnf))
  refine Cnd_i (fun g => ?_) (fun g => ?_)
  rotate_left
  · have hq0 := of_decide_eq_false g
    have hf := hfin (.inl (by omega))
    ((conv=>whnf);repeat((first|refine Ct ‹_› ?_|refine Cf ‹_› ?_|refine Ct rfl ?_|refine Cf rfl ?_|refine Bi rfl ?_|refine Bz rfl ?_|refine Lr ?_);conv=>whnf))
    cases nr with
    | false =>
      ((conv=>whnf);repeat((first|refine Ct ‹_› ?_|refine Cf ‹_› ?_|refine Ct rfl ?_|refine Cf rfl ?_|refine Bi rfl ?_|refine Bz rfl ?_|refine Lr ?_);conv=>whnf))
      refine ⟨l2 - 1, i + 1, best, ?_, by omega, by omega, by omega, hno (fun hh => by have := hf.2 hh; cases this)⟩
      rw [wrapI (by omega)]; rfl
    | true =>
      ((conv=>whnf);repeat((first|refine Ct ‹_› ?_|refine Cf ‹_› ?_|refine Ct rfl ?_|refine Cf rfl ?_|refine Bi rfl ?_|refine Bz rfl ?_|refine Lr ?_);conv=>whnf))
      refine Cnd_i (fun g => ?_) (fun g => ?_)
      · have gb := of_decide_eq_true g
        ((conv=>whnf);repeat((first|refine Ct ‹_› ?_|refine Cf ‹_› ?_|refine Ct rfl ?_|refine Cf rfl ?_|refine Bi rfl ?_|refine Bz rfl ?_|refine Lr ?_);conv=>whnf))
        refine ⟨l2 - 1, i + 1, i, ?_, by omega, by omega, by omega, hstep _ ?_⟩
        · rw [wrapI (by omega)]; rfl
        · rw [lstI_succ, show ((i.toNat : Nat) : Int) = i by omega, if_pos ⟨by omega, hf.1 rfl⟩]
      · have gb := of_decide_eq_false g
        ((conv=>whnf);repeat((first|refine Ct ‹_› ?_|refine Cf ‹_› ?_|refine Ct rfl ?_|refine Cf rfl ?_|refine Bi rfl ?_|refine Bz rfl ?_|refine Lr ?_);conv=>whnf))
        refine ⟨l2 - 1, i + 1, best, ?_, by omega, by omega, by omega, hstep _ ?_⟩
        · rw [wrapI (by omega)]; rfl
        · rw [lstI_succ, if_neg (fun hh => gb (by have := hh.1; omega))]; exact i3
  have hq0 := of_decide_eq_true g
  have hpr := hpr (by omega)
  have hw2 := hw2 (by omega)
  have hw3 : 0 ≤ IntKind.i64.wrap (q - 1) ∧ IntKind.i64.wrap (q - 1) < out.length := by rw [hw2]; clear d7 hfin; omega
  ((conv=>whnf);repeat((first|refine Ct ‹_› ?_|refine Cf ‹_› ?_|refine Ct rfl ?_|refine Cf rfl ?_|refine Bi rfl ?_|refine Bz rfl ?_|refine Lr ?_);conv=>whnf))
  cases nr with
  | true =>
    ((conv=>whnf);repeat((first|refine Ct ‹_› ?_|refine Cf ‹_› ?_|refine Ct rfl ?_|refine Cf rfl ?_|refine Bi rfl ?_|refine Bz rfl ?_|refine Lr ?_);conv=>whnf))
    refine ⟨l3 - 1, true, d + 1, ?_, by omega, by omega, by omega, ⟨fun _ => (d7.1 rfl).elim .inl (fun ⟨e, e1, e2, e3⟩ => .inr ⟨e, e1, by omega, e3⟩), fun _ => rfl⟩⟩
    rw [wrapI (by omega)]; rfl
  | false =>
    ((conv=>whnf);repeat((first|refine Ct ‹_› ?_|refine Cf ‹_› ?_|refine Ct rfl ?_|refine Cf rfl ?_|refine Bi rfl ?_|refine Bz rfl ?_|refine Lr ?_);conv=>whnf))
    refine Bnd_i hw3 ?_
    ((conv=>whnf);repeat((first|refine Ct ‹_› ?_|refine Cf ‹_› ?_|refine Ct rfl ?_|refine Cf rfl ?_|refine Bi rfl ?_|refine Bz rfl ?_|refine Lr ?_);conv=>whnf))
    refine CallQ_eq (show _ = [.agg b.m.cs, vI pv, vI d] by rw [hw2, hpv]) ?_
    (refine CallQ_some (F_mNext b.m h.gb.wh pv d hpr.1 (by omega) d0 (by omega)) ?_ ?_ ?_; rfl; rfl); ((conv=>whnf);repeat((first|refine Ct ‹_› ?_|refine Cf ‹_› ?_|refine Ct rfl ?_|refine Cf rfl ?_|refine Bi rfl ?_|refine Bz rfl ?_|refine Lr ?_);conv=>whnf))
    refine ⟨l3 - 1, (nx b.m pv d == i), d + 1, ?_, by omega, by omega, by omega, ?_⟩
    · rw [wrapI (n := d + 1) (by omega)]; rfl
    · rw [beq_iff_eq]
      constructor
      · intro h9; exact .inr ⟨d, d0, by omega, h9⟩
      · rintro (h9 | ⟨e, e1, e2, e3⟩)
        · omega
        · by_cases h8 : e = d
          · subst h8; exact e3
          · have := d7.2 (.inr ⟨e, e1, by omega, e3⟩)
            cases this

theorem F_SupplyPathI (b : Brd) (ho : b.Ok) (s : Stt) (hs : s.Ok) (t : Int) (F : List Int) (hF : okL F) :
    Fun E0 10 [.agg b.cs, .agg s.cs, vI t, .one (roI F)] [] (.tup [.one (.own 0 (spR b s t F).1.length), vB (spR b s t F).2]) [(0, rwI (spR b s t F).1)] [] := by
  refine Fun_of_xc k10 rfl rfl (nrC (rwI_no _) nrN) ?_
  ((conv=>whnf);repeat((first|refine Ct ‹_› ?_|refine Cf ‹_› ?_|refine Ct rfl ?_|refine Cf rfl ?_|refine Bi rfl ?_|refine Bz rfl ?_|refine Lr ?_);conv=>whnf))
  refine Rw_i (rwI []) (rwI_nil _) ?_
  ((conv=>whnf);repeat((first|refine Ct ‹_› ?_|refine Cf ‹_› ?_|refine Ct rfl ?_|refine Cf rfl ?_|refine Bi rfl ?_|refine Bz rfl ?_|refine Lr ?_);conv=>whnf))
  (refine CallQ_some (F_isSupply b ho s hs t F hF) ?_ ?_ ?_; rfl; rfl); ((conv=>whnf);repeat((first|refine Ct ‹_› ?_|refine Cf ‹_› ?_|refine Ct rfl ?_|refine Cf rfl ?_|refine Bi rfl ?_|refine Bz rfl ?_|refine Lr ?_);conv=>whnf))
  refine Cnd_i (fun g => ?_) (fun g => ?_)
  · have e0 : okSu b s t F = false := by first | (rwa [Bool.not_eq_true'] at g) | (rwa [Bool.not_eq_false'] at g) | (simpa using g)
    ((conv=>whnf);repeat((first|refine Ct ‹_› ?_|refine Cf ‹_› ?_|refine Ct rfl ?_|refine Cf rfl ?_|refine Bi rfl ?_|refine Bz rfl ?_|refine Lr ?_);conv=>whnf))
    refine Rw_i (rwI []) (rwI_nil _) ?_
    ((conv=>whnf);repeat((first|refine Ct ‹_› ?_|refine Cf ‹_› ?_|refine Ct rfl ?_|refine Cf rfl ?_|refine Bi rfl ?_|refine Bz rfl ?_|refine Lr ?_);conv=>whnf))
    rw [spR, e0]
    exact ⟨rfl, rfl, rfl⟩
  have e0 : okSu b s t F = true := by first | (rwa [Bool.not_eq_true'] at g) | (rwa [Bool.not_eq_false'] at g) | (simpa using g)
  obtain ⟨⟨h, t0, t1⟩, hF6⟩ := SuOk ho e0
  have hU := h.un _ (getD_memT (d := Unt.d) t0 t1)
  have hn := h.gb.n
  have hm := h.gb.wh.mul
  have hsp := h.gb.sup
  ((conv=>whnf);repeat((first|refine Ct ‹_› ?_|refine Cf ‹_› ?_|refine Ct rfl ?_|refine Cf rfl ?_|refine Bi rfl ?_|refine Bz rfl ?_|refine Lr ?_);conv=>whnf))
  refine Bnd_i (⟨t0, t1⟩) ?_; ((conv=>whnf);repeat((first|refine Ct ‹_› ?_|refine Cf ‹_› ?_|refine Ct rfl ?_|refine Cf rfl ?_|refine Bi rfl ?_|refine Bz rfl ?_|refine Lr ?_);conv=>whnf))
  (refine CallQ_some (F_wayOf b s h (s.un.getD t.toNat Unt.d) hU F hF6) ?_ ?_ ?_; rfl; rfl); ((conv=>whnf);repeat((first|refine Ct ‹_› ?_|refine Cf ‹_› ?_|refine Ct rfl ?_|refine Cf rfl ?_|refine Bi rfl ?_|refine Bz rfl ?_|refine Lr ?_);conv=>whnf))
  refine Cnd_i (fun g => ?_) (fun g => ?_)
  · have d := of_decide_eq_true g
    have e1 : inSu b s (s.un.getD t.toNat Unt.d) F = false := by
      rw [← (wySu_in hU F).1]; exact decide_eq_false (by omega)
    ((conv=>whnf);repeat((first|refine Ct ‹_› ?_|refine Cf ‹_› ?_|refine Ct rfl ?_|refine Cf rfl ?_|refine Bi rfl ?_|refine Bz rfl ?_|refine Lr ?_);conv=>whnf))
    refine Rw_i (rwI []) (rwI_nil _) ?_
    ((conv=>whnf);repeat((first|refine Ct ‹_› ?_|refine Cf ‹_› ?_|refine Ct rfl ?_|refine Cf rfl ?_|refine Bi rfl ?_|refine Bz rfl ?_|refine Lr ?_);conv=>whnf))
    rw [spR, e0, if_pos rfl, e1]
    exact ⟨rfl, rfl, rfl⟩
  have d := of_decide_eq_false g
  have e1 : inSu b s (s.un.getD t.toNat Unt.d) F = true := by
    rw [← (wySu_in hU F).1]; exact decide_eq_true (by omega)
  have hR : spR b s t F = ((List.range (farU b s (s.un.getD t.toNat Unt.d) F + 1).toNat).map (ptU b s (s.un.getD t.toNat Unt.d) F), true) := by rw [spR, e0, if_pos rfl, e1, if_pos rfl]
  rw [hR]
  ((conv=>whnf);repeat((first|refine Ct ‹_› ?_|refine Cf ‹_› ?_|refine Ct rfl ?_|refine Cf rfl ?_|refine Bi rfl ?_|refine Bz rfl ?_|refine Lr ?_);conv=>whnf))
  refine Bnd_i (⟨t0, t1⟩) ?_; ((conv=>whnf);repeat((first|refine Ct ‹_› ?_|refine Cf ‹_› ?_|refine Ct rfl ?_|refine Cf rfl ?_|refine Bi rfl ?_|refine Bz rfl ?_|refine Lr ?_);conv=>whnf))
  generalize s.un.getD t.toNat Unt.d = u at hU e1 ⊢
  obtain ⟨w1, w2, w3, w4, w5⟩ := (wySu_in hU F).2.1 e1
  have D := SpD_of h hF6 ⟨w2, w3⟩ w4
  have hP : ∀ k : Nat, (k : Int) ≤ farU b s u F → (0 ≤ ptU b s u F k ∧ ptU b s u F k < b.m.ter.length) ∧ (splB b s u.side u.kind F).getD (ptU b s u F k).toNat 0 = k ∧ (spL b.m (opBs b s u.side u.kind) [u.at']).getD (ptU b s u F k).toNat 0 = farU b s u F - k := pth_ok D
  have hps : ∀ (k : Nat) (z : Int), (k : Int) < farU b s u F → 0 ≤ z ∧ z < b.m.ter.length → gN b.m (ptU b s u F k) z → (spL b.m (opBs b s u.side u.kind) [u.at']).getD z.toNat 0 = farU b s u F - k - 1 → (∀ j, gN b.m (ptU b s u F k) j → (spL b.m (opBs b s u.side u.kind) [u.at']).getD j.toNat 0 = farU b s u F - k - 1 → z ≤ j) → ptU b s u F (k + 1) = z := fun k z hk hz hg hb hl => pth_s D k hk hz hg hb hl
  have hp0 : ∀ z : Int, 0 ≤ z ∧ z < b.m.ter.length → srcS F (opO (opBs b s u.side u.kind)) z → 0 ≤ (spL b.m (opBs b s u.side u.kind) [u.at']).getD z.toNat 0 → (∀ k, srcS F (opO (opBs b s u.side u.kind)) k → 0 ≤ (spL b.m (opBs b s u.side u.kind) [u.at']).getD k.toNat 0 → (spL b.m (opBs b s u.side u.kind) [u.at']).getD z.toNat 0 ≤ (spL b.m (opBs b s u.side u.kind) [u.at']).getD k.toNat 0 ∧ ((spL b.m (opBs b s u.side u.kind) [u.at']).getD z.toNat 0 = (spL b.m (opBs b s u.side u.kind) [u.at']).getD k.toNat 0 → z ≤ k)) → ptU b s u F 0 = z := fun z h1 h2 h3 h4 => pth_0 D h1 h2 h3 h4
  have hfl := splB_len b s u.side u.kind F
  have hol := opBs_len b s u.side u.kind
  have hbl := bkU_len b s u
  have hx6 : ∀ x ∈ [u.at'], 0 ≤ x ∧ x < ((opBs b s u.side u.kind).length : Int) := fun x hx => by
    have : x = u.at' := by simpa using hx
    omega
  ((conv=>whnf);repeat((first|refine Ct ‹_› ?_|refine Cf ‹_› ?_|refine Ct rfl ?_|refine Cf rfl ?_|refine Bi rfl ?_|refine Bz rfl ?_|refine Lr ?_);conv=>whnf))
  (refine CallQ_some (F_openFor b s h u.side u.kind hU.sd hU.kind) ?_ ?_ ?_; rfl; rfl); ((conv=>whnf);repeat((first|refine Ct ‹_› ?_|refine Cf ‹_› ?_|refine Ct rfl ?_|refine Cf rfl ?_|refine Bi rfl ?_|refine Bz rfl ?_|refine Lr ?_);conv=>whnf))
  refine Rw_i (rwI [u.at']) (rwI_one _) ?_
  ((conv=>whnf);repeat((first|refine Ct ‹_› ?_|refine Cf ‹_› ?_|refine Ct rfl ?_|refine Cf rfl ?_|refine Bi rfl ?_|refine Bz rfl ?_|refine Lr ?_);conv=>whnf))
  (refine CallQ_some (F_spread b.m h.gb.wh (opBs b s u.side u.kind) [u.at'] (by omega) (by simp) hx6) ?_ ?_ ?_; rfl; rfl); ((conv=>whnf);repeat((first|refine Ct ‹_› ?_|refine Cf ‹_› ?_|refine Ct rfl ?_|refine Cf rfl ?_|refine Bi rfl ?_|refine Bz rfl ?_|refine Lr ?_);conv=>whnf))
  generalize hn' : farU b s u F = n at *
  generalize hpt : ptU b s u F = pt at *
  generalize hO : opBs b s u.side u.kind = O at *
  generalize hLL : splB b s u.side u.kind F = L at *
  generalize hBB : spL b.m O [u.at'] = B at *
  have hFm := (okSr_mem hF6).2
  have hF6l := (okSr_mem hF6).1
  have hFr : ∀ i j : Nat, i ≤ j → j < F.length → F.getD i 0 ≤ F.getD j 0 := by
    have hr : rising F = true := by
      have := hF6
      simp only [okSr, okAv, Bool.and_eq_true] at this
      exact this.2.2
    have hr := of_decide_eq_true hr
    intro i j hij hj
    obtain ⟨d, rfl⟩ : ∃ d, j = i + d := ⟨j - i, by omega⟩
    clear hij
    induction d with
    | zero => exact Int.le_refl _
    | succ d ih =>
      have h1 := hr (i + d + 1) (by omega) (by omega)
      have h2 := ih (by omega)
      rw [show i + d + 1 - 1 = i + d by omega] at h1
      exact Int.le_trans h2 (Int.le_of_lt h1)
  have hblow : ∀ j : Nat, j < b.m.ter.length → -1 ≤ B.getD j 0 := by
    have := D.hB.low
    exact this
  refine WLoop_v2 ⟨[4, 10, 11, 12, 55, 56, 57], [4, 10], []⟩ (fun (i : Int) (a : Int) => hdS 125 [(4, .v (.one (.box 4 0))), (10, .v (.one (.box 10 0))), (11, .v (.one (.own (vkey 11) B.length))), (12, .v (vI a)), (55, .v (.one (roI F))), (56, .v (vI F.length)), (57, .v (vI i))] [(4, b.cs), (10, u.cs)] [(vkey 11, rwI B)])
    (fun l i a => 0 ≤ i ∧ i + l = F.length ∧ ((a = -1 ∧ ∀ j : Nat, (j : Int) < i → B.getD (F.getD j 0).toNat 0 < 0) ∨ ((0 ≤ a ∧ a < b.m.ter.length) ∧ a ∈ F ∧ 0 ≤ B.getD a.toNat 0 ∧ (∃ j : Nat, (j : Int) < i ∧ F.getD j 0 = a) ∧ ∀ j : Nat, (j : Int) < i → 0 ≤ B.getD (F.getD j 0).toNat 0 → B.getD a.toNat 0 ≤ B.getD (F.getD j 0).toNat 0 ∧ (B.getD a.toNat 0 = B.getD (F.getD j 0).toNat 0 → a ≤ F.getD j 0)))) F.length 0 (-1) rfl ⟨by omega, by omega, .inl ⟨rfl, fun j hj => by omega⟩⟩ ?_
  rintro l i a ⟨i1, i2, i3⟩
  ((conv=>whnf);repeat((first|refine Ct ‹_› ?_|refine Cf ‹_› ?_|refine Ct rfl ?_|refine Cf rfl ?_|refine Bi rfl ?_|refine Bz rfl ?_|refine Lr ?_);conv=>whnf))
  refine Cnd_i (fun g => ?_) (fun g => ?_)
  · have hi := of_decide_eq_true g
    have hx := hFm _ (getD_mem i1 hi)
    have hsplit : ∀ {P : Int → Prop}, (∀ j : Nat, (j : Int) < i → P (F.getD j 0)) → P (F.getD i.toNat 0) → ∀ j : Nat, (j : Int) < i + 1 → P (F.getD j 0) := by
      intro P h1 h2 j hj
      by_cases e : (j : Int) = i
      · rw [show j = i.toNat by omega]; exact h2
      · exact h1 j (by omega)
    have hmem : F.getD i.toNat 0 ∈ F := getD_mem i1 hi
    have hrise : ∀ j : Nat, (j : Int) < i → F.getD j 0 ≤ F.getD i.toNat 0 := fun j hj => hFr j i.toNat (by omega) (by omega)
    have hlast : ∃ j : Nat, (j : Int) < i + 1 ∧ F.getD j 0 = F.getD i.toNat 0 := ⟨i.toNat, by omega, rfl⟩
    ((conv=>whnf);repeat((first|refine Ct ‹_› ?_|refine Cf ‹_› ?_|refine Ct rfl ?_|refine Cf rfl ?_|refine Bi rfl ?_|refine Bz rfl ?_|refine Lr ?_);conv=>whnf))
    refine Bnd_i (⟨i1, hi⟩) ?_; ((conv=>whnf);repeat((first|refine Ct ‹_› ?_|refine Cf ‹_› ?_|refine Ct rfl ?_|refine Cf rfl ?_|refine Bi rfl ?_|refine Bz rfl ?_|refine Lr ?_);conv=>whnf))
    generalize F.getD i.toNat 0 = x at hx hsplit hmem hrise hlast ⊢
    refine Bnd_i (⟨by omega, by omega⟩) ?_; ((conv=>whnf);repeat((first|refine Ct ‹_› ?_|refine Cf ‹_› ?_|refine Ct rfl ?_|refine Cf rfl ?_|refine Bi rfl ?_|refine Bz rfl ?_|refine Lr ?_);conv=>whnf))
    refine Cnd_i (fun g => ?_) (fun g => ?_)
    rotate_left
    · have e := of_decide_eq_false g
      ((conv=>whnf);repeat((first|refine Ct ‹_› ?_|refine Cf ‹_› ?_|refine Ct rfl ?_|refine Cf rfl ?_|refine Bi rfl ?_|refine Bz rfl ?_|refine Lr ?_);conv=>whnf))
      refine ⟨l - 1, i + 1, a, ?_, by omega, by omega, by omega, ?_⟩
      · rw [wrapI (by omega)]; rfl
      · rcases i3 with ⟨r1, r2⟩ | ⟨r1, r2, r3, ⟨j, r4, r5⟩, r6⟩
        · exact .inl ⟨r1, hsplit (P := fun y => B.getD y.toNat 0 < 0) r2 (by omega)⟩
        · exact .inr ⟨r1, r2, r3, ⟨j, by omega, r5⟩, hsplit (P := fun y => 0 ≤ B.getD y.toNat 0 → B.getD a.toNat 0 ≤ B.getD y.toNat 0 ∧ (B.getD a.toNat 0 = B.getD y.toNat 0 → a ≤ y)) r6 (fun hh => absurd hh (by omega))⟩
    have e := of_decide_eq_true g
    ((conv=>whnf);repeat((first|refine Ct ‹_› ?_|refine Cf ‹_› ?_|refine Ct rfl ?_|refine Cf rfl ?_|refine Bi rfl ?_|refine Bz rfl ?_|refine Lr ?_);conv=>whnf))
    refine Cnd_i (fun g => ?_) (fun g => ?_)
    · have ea := of_decide_eq_true g
      ((conv=>whnf);repeat((first|refine Ct ‹_› ?_|refine Cf ‹_› ?_|refine Ct rfl ?_|refine Cf rfl ?_|refine Bi rfl ?_|refine Bz rfl ?_|refine Lr ?_);conv=>whnf))
      refine ⟨l - 1, i + 1, x, ?_, by omega, by omega, by omega, .inr ⟨hx, hmem, by omega, hlast, ?_⟩⟩
      · rw [wrapI (by omega)]; rfl
      · rcases i3 with ⟨r1, r2⟩ | ⟨r1, r2, r3, ⟨j, r4, r5⟩, r6⟩
        · exact hsplit (P := fun y => 0 ≤ B.getD y.toNat 0 → B.getD x.toNat 0 ≤ B.getD y.toNat 0 ∧ (B.getD x.toNat 0 = B.getD y.toNat 0 → x ≤ y)) (fun j hj hh => absurd (r2 j hj) (by omega)) (fun hh => ⟨by omega, fun _ => by omega⟩)
        · omega
    have ea := of_decide_eq_false g
    rcases i3 with ⟨r1, r2⟩ | ⟨r1, r2, r3, ⟨j0, r4, r5⟩, r6⟩
    · omega
    ((conv=>whnf);repeat((first|refine Ct ‹_› ?_|refine Cf ‹_› ?_|refine Ct rfl ?_|refine Cf rfl ?_|refine Bi rfl ?_|refine Bz rfl ?_|refine Lr ?_);conv=>whnf))
    refine Bnd_i (⟨by omega, by omega⟩) ?_; ((conv=>whnf);repeat((first|refine Ct ‹_› ?_|refine Cf ‹_› ?_|refine Ct rfl ?_|refine Cf rfl ?_|refine Bi rfl ?_|refine Bz rfl ?_|refine Lr ?_);conv=>whnf))
    refine Bnd_i (⟨by omega, by omega⟩) ?_; ((conv=>whnf);repeat((first|refine Ct ‹_› ?_|refine Cf ‹_› ?_|refine Ct rfl ?_|refine Cf rfl ?_|refine Bi rfl ?_|refine Bz rfl ?_|refine Lr ?_);conv=>whnf))
    refine Cnd_i (fun g => ?_) (fun g => ?_)
    · have el := of_decide_eq_true g
      ((conv=>whnf);repeat((first|refine Ct ‹_› ?_|refine Cf ‹_› ?_|refine Ct rfl ?_|refine Cf rfl ?_|refine Bi rfl ?_|refine Bz rfl ?_|refine Lr ?_);conv=>whnf))
      refine ⟨l - 1, i + 1, x, ?_, by omega, by omega, by omega, .inr ⟨hx, hmem, by omega, hlast, ?_⟩⟩
      · rw [wrapI (by omega)]; rfl
      · exact hsplit (P := fun y => 0 ≤ B.getD y.toNat 0 → B.getD x.toNat 0 ≤ B.getD y.toNat 0 ∧ (B.getD x.toNat 0 = B.getD y.toNat 0 → x ≤ y)) (fun j hj hh => by have := (r6 j hj hh).1; exact ⟨by omega, fun _ => by omega⟩) (fun hh => ⟨by omega, fun _ => by omega⟩)
    · have el := of_decide_eq_false g
      have := hrise j0 r4
      ((conv=>whnf);repeat((first|refine Ct ‹_› ?_|refine Cf ‹_› ?_|refine Ct rfl ?_|refine Cf rfl ?_|refine Bi rfl ?_|refine Bz rfl ?_|refine Lr ?_);conv=>whnf))
      refine ⟨l - 1, i + 1, a, ?_, by omega, by omega, by omega, .inr ⟨r1, r2, r3, ⟨j0, by omega, r5⟩, ?_⟩⟩
      · rw [wrapI (by omega)]; rfl
      · exact hsplit (P := fun y => 0 ≤ B.getD y.toNat 0 → B.getD a.toNat 0 ≤ B.getD y.toNat 0 ∧ (B.getD a.toNat 0 = B.getD y.toNat 0 → a ≤ y)) r6 (fun hh => ⟨by omega, fun _ => by omega⟩)
  have hi := of_decide_eq_false g
  have hmf : ∀ k ∈ F, ∃ j : Nat, (j : Int) < i ∧ F.getD j 0 = k := by
    intro k hk
    obtain ⟨j, hj, rfl⟩ := List.mem_iff_getElem.1 hk
    exact ⟨j, by omega, by simp [List.getD_eq_getElem?_getD, hj]⟩
  have ha : a = pt 0 := by
    rcases i3 with ⟨r1, r2⟩ | ⟨r1, r2, r3, _, r6⟩
    · obtain ⟨k, k1, k2⟩ := D.start
      obtain ⟨j, j1, j2⟩ := hmf k k1.1
      have := r2 j j1
      rw [j2] at this
      omega
    · refine (hp0 a r1 ⟨r2, ?_⟩ r3 fun k hk h0 => ?_).symm
      · exact D.bo r1 r3
      · obtain ⟨j, j1, j2⟩ := hmf k hk.1
        have := r6 j j1
        rw [j2] at this
        exact this h0
  clear i3
  subst ha
  ((conv=>whnf);repeat((first|refine Ct ‹_› ?_|refine Cf ‹_› ?_|refine Ct rfl ?_|refine Cf rfl ?_|refine Bi rfl ?_|refine Bz rfl ?_|refine Lr ?_);conv=>whnf))
  refine Rw_i (rwI [pt 0]) (rwI_one _) ?_
  ((conv=>whnf);repeat((first|refine Ct ‹_› ?_|refine Cf ‹_› ?_|refine Ct rfl ?_|refine Cf rfl ?_|refine Bi rfl ?_|refine Bz rfl ?_|refine Lr ?_);conv=>whnf))
  refine WLoop_v2 ⟨[4, 10, 11, 12, 15], [4, 10], []⟩ (fun (q : Int) (out : List Int) => hdS 125 [(4, .v (.one (.box 4 0))), (10, .v (.one (.box 10 0))), (11, .v (.one (.own (vkey 11) B.length))), (12, .v (vI (pt q.toNat))), (15, .v (.one (.own (vkey 15) out.length)))] [(4, b.cs), (10, u.cs)] [(vkey 11, rwI B), (vkey 15, rwI out)])
    (fun l q out => 0 ≤ q ∧ q + l = n ∧ out = (List.range (q + 1).toNat).map pt) n.toNat 0 [pt 0] rfl ⟨by omega, by omega, rfl⟩ ?_
  rintro l q out ⟨q1, q2, q3⟩
  have hol' : out.length = (q + 1).toNat := by rw [q3]; simp
  have hpq := hP q.toNat (by omega)
  have hz := D.b0 hpq.1
  ((conv=>whnf);repeat((first|refine Ct ‹_› ?_|refine Cf ‹_› ?_|refine Ct rfl ?_|refine Cf rfl ?_|refine Bi rfl ?_|refine Bz rfl ?_|refine Lr ?_);conv=>whnf))
  refine Cnd_i (fun g => ?_) (fun g => ?_)
  rotate_left
  · have hq : pt q.toNat = u.at' := by simpa using g
    have := hz.2 hq
    ((conv=>whnf);repeat((first|refine Ct ‹_› ?_|refine Cf ‹_› ?_|refine Ct rfl ?_|refine Cf rfl ?_|refine Bi rfl ?_|refine Bz rfl ?_|refine Lr ?_);conv=>whnf))
    rw [q3, show q = n by omega]
    exact ⟨rfl, rfl, rfl⟩
  have hq : ¬ pt q.toNat = u.at' := by simpa using g
  have hqn : q < n := by
    by_cases e : q < n
    · exact e
    · exact absurd (hz.1 (by omega)) hq
  have hps := hps q.toNat
  generalize hat : pt q.toNat = a at *
  ((conv=>whnf);repeat((first|refine Ct ‹_› ?_|refine Cf ‹_› ?_|refine Ct rfl ?_|refine Cf rfl ?_|refine Bi rfl ?_|refine Bz rfl ?_|refine Lr ?_);conv=>whnf))
  (refine CallQ_some (F_neighboursOn b.m h.gb.wh a hpq.1.1 (by omega)) ?_ ?_ ?_; rfl; rfl); ((conv=>whnf);repeat((first|refine Ct ‹_› ?_|refine Cf ‹_› ?_|refine Ct rfl ?_|refine Cf rfl ?_|refine Bi rfl ?_|refine Bz rfl ?_|refine Lr ?_);conv=>whnf))
  have hnb : ∀ k, gN b.m a k ↔ k ∈ nbL b.m a 6 0 := fun k => gN_nb (by omega)
  have hnl := nbL_le b.m a 6 0
  generalize nbL b.m a 6 0 = W at hnb hnl ⊢
  refine WLoop_v2 ⟨[4, 10, 11, 12, 15, 16, 92, 93, 94], [4, 10], []⟩ (fun (i : Int) (z : Int) => hdS 125 [(4, .v (.one (.box 4 0))), (10, .v (.one (.box 10 0))), (11, .v (.one (.own (vkey 11) B.length))), (12, .v (vI a)), (15, .v (.one (.own (vkey 15) out.length))), (16, .v (vI z)), (92, .v (.one (.own (vkey 92) W.length))), (93, .v (vI W.length)), (94, .v (vI i))] [(4, b.cs), (10, u.cs)] [(vkey 11, rwI B), (vkey 15, rwI out), (vkey 92, rwI W)])
    (fun l i z => 0 ≤ i ∧ i + l = W.length ∧ ((z = -1 ∧ ∀ j : Nat, (j : Int) < i → ¬ B.getD (W.getD j 0).toNat 0 = n - q - 1) ∨ (z ∈ W ∧ B.getD z.toNat 0 = n - q - 1 ∧ ∀ j : Nat, (j : Int) < i → B.getD (W.getD j 0).toNat 0 = n - q - 1 → z ≤ W.getD j 0))) W.length 0 (-1) rfl ⟨by omega, by omega, .inl ⟨rfl, fun j hj => by omega⟩⟩ ?_
  rintro l2 i z ⟨i1, i2, i3⟩
  ((conv=>whnf);repeat((first|refine Ct ‹_› ?_|refine Cf ‹_› ?_|refine Ct rfl ?_|refine Cf rfl ?_|refine Bi rfl ?_|refine Bz rfl ?_|refine Lr ?_);conv=>whnf))
  refine Cnd_i (fun g => ?_) (fun g => ?_)
  rotate_left
  · have hi := of_decide_eq_false g
    have hmf : ∀ k ∈ W, ∃ j : Nat, (j : Int) < i ∧ W.getD j 0 = k := by
      intro k hk
      obtain ⟨j, hj, rfl⟩ := List.mem_iff_getElem.1 hk
      exact ⟨j, by omega, by simp [List.getD_eq_getElem?_getD, hj]⟩
    have hzp : z = pt (q + 1).toNat := by
      rcases i3 with ⟨r1, r2⟩ | ⟨r1, r2, r3⟩
      · obtain ⟨k, k1, k2, k3⟩ := D.next hpq.1 (by omega)
        obtain ⟨j, j1, j2⟩ := hmf k ((hnb k).1 k2)
        have := r2 j j1
        rw [j2] at this
        omega
      · rw [show (q + 1).toNat = q.toNat + 1 by omega]
        have hb := gN_b h.gb.wh ((hnb z).2 r1)
        refine (hps z (by omega) (by omega) ((hnb z).2 r1) (by omega) fun k hk h0 => ?_).symm
        obtain ⟨j, j1, j2⟩ := hmf k ((hnb k).1 hk)
        have := r3 j j1
        rw [j2] at this
        exact this (by omega)
    subst hzp
    ((conv=>whnf);repeat((first|refine Ct ‹_› ?_|refine Cf ‹_› ?_|refine Ct rfl ?_|refine Cf rfl ?_|refine Bi rfl ?_|refine Bz rfl ?_|refine Lr ?_);conv=>whnf))
    refine Rw_self ?_
    ((conv=>whnf);repeat((first|refine Ct ‹_› ?_|refine Cf ‹_› ?_|refine Ct rfl ?_|refine Cf rfl ?_|refine Bi rfl ?_|refine Bz rfl ?_|refine Lr ?_);conv=>whnf))
    refine Bnd_i ?_ ?_
    · show out.length + 1 < _
      omega
    ((conv=>whnf);repeat((first|refine Ct ‹_› ?_|refine Cf ‹_› ?_|refine Ct rfl ?_|refine Cf rfl ?_|refine Bi rfl ?_|refine Bz rfl ?_|refine Lr ?_);conv=>whnf))
    refine Rw_i (rwI (out ++ [pt (q + 1).toNat])) (rwI_app _ _ _ rfl) ?_
    ((conv=>whnf);repeat((first|refine Ct ‹_› ?_|refine Cf ‹_› ?_|refine Ct rfl ?_|refine Cf rfl ?_|refine Bi rfl ?_|refine Bz rfl ?_|refine Lr ?_);conv=>whnf))
    refine ⟨l - 1, q + 1, out ++ [pt (q + 1).toNat], rfl, by omega, by omega, by omega, ?_⟩
    rw [range_succ' _ (q + 1) (by omega), ← q3]
  have hi := of_decide_eq_true g
  have hx := gN_b h.gb.wh ((hnb (W.getD i.toNat 0)).2 (getD_mem i1 hi))
  have hmem : W.getD i.toNat 0 ∈ W := getD_mem i1 hi
  have hsplit : ∀ {P : Int → Prop}, (∀ j : Nat, (j : Int) < i → P (W.getD j 0)) → P (W.getD i.toNat 0) → ∀ j : Nat, (j : Int) < i + 1 → P (W.getD j 0) := by
    intro P h1 h2 j hj
    by_cases e : (j : Int) = i
    · rw [show j = i.toNat by omega]; exact h2
    · exact h1 j (by omega)
  ((conv=>whnf);repeat((first|refine Ct ‹_› ?_|refine Cf ‹_› ?_|refine Ct rfl ?_|refine Cf rfl ?_|refine Bi rfl ?_|refine Bz rfl ?_|refine Lr ?_);conv=>whnf))
  refine Bnd_i (⟨i1, hi⟩) ?_; ((conv=>whnf);repeat((first|refine Ct ‹_› ?_|refine Cf ‹_› ?_|refine Ct rfl ?_|refine Cf rfl ?_|refine Bi rfl ?_|refine Bz rfl ?_|refine Lr ?_);conv=>whnf))
  generalize W.getD i.toNat 0 = x at hx hsplit hmem ⊢
  refine Bnd_i (⟨by omega, by omega⟩) ?_; ((conv=>whnf);repeat((first|refine Ct ‹_› ?_|refine Cf ‹_› ?_|refine Ct rfl ?_|refine Cf rfl ?_|refine Bi rfl ?_|refine Bz rfl ?_|refine Lr ?_);conv=>whnf))
  refine Bnd_i (⟨by omega, by omega⟩) ?_; ((conv=>whnf);repeat((first|refine Ct ‹_› ?_|refine Cf ‹_› ?_|refine Ct rfl ?_|refine Cf rfl ?_|refine Bi rfl ?_|refine Bz rfl ?_|refine Lr ?_);conv=>whnf))
  have hc : (B.getD x.toNat 0 == IntKind.i64.wrap (B.getD a.toNat 0 - 1)) = decide (B.getD x.toNat 0 = n - q - 1) := (by rw [hpq.2.2, show n - ((q.toNat : Nat) : Int) - 1 = n - q - 1 by omega, wrapI (by omega)]; rfl)
  refine Cnd_i (fun g => ?_) (fun g => ?_)
  rotate_left
  · have e := of_decide_eq_false (hc.symm.trans g)
    ((conv=>whnf);repeat((first|refine Ct ‹_› ?_|refine Cf ‹_› ?_|refine Ct rfl ?_|refine Cf rfl ?_|refine Bi rfl ?_|refine Bz rfl ?_|refine Lr ?_);conv=>whnf))
    refine ⟨l2 - 1, i + 1, z, ?_, by omega, by omega, by omega, ?_⟩
    · rw [wrapI (n := i + 1) (by omega)]; rfl
    · rcases i3 with ⟨r1, r2⟩ | ⟨r1, r2, r3⟩
      · exact .inl ⟨r1, hsplit (P := fun y => ¬ B.getD y.toNat 0 = n - q - 1) r2 e⟩
      · exact .inr ⟨r1, r2, hsplit (P := fun y => B.getD y.toNat 0 = n - q - 1 → z ≤ y) r3 (fun hh => absurd hh e)⟩
  have e := of_decide_eq_true (hc.symm.trans g)
  ((conv=>whnf);repeat((first|refine Ct ‹_› ?_|refine Cf ‹_› ?_|refine Ct rfl ?_|refine Cf rfl ?_|refine Bi rfl ?_|refine Bz rfl ?_|refine Lr ?_);conv=>whnf))
  refine Cnd_i (fun g => ?_) (fun g => ?_)
  · have ea := of_decide_eq_true g
    ((conv=>whnf);repeat((first|refine Ct ‹_› ?_|refine Cf ‹_› ?_|refine Ct rfl ?_|refine Cf rfl ?_|refine Bi rfl ?_|refine Bz rfl ?_|refine Lr ?_);conv=>whnf))
    refine ⟨l2 - 1, i + 1, x, ?_, by omega, by omega, by omega, .inr ⟨hmem, e, ?_⟩⟩
    · rw [wrapI (n := i + 1) (by omega)]; rfl
    · rcases i3 with ⟨r1, r2⟩ | ⟨r1, r2, r3⟩
      · exact hsplit (P := fun y => B.getD y.toNat 0 = n - q - 1 → x ≤ y) (fun j hj hh => absurd hh (r2 j hj)) (fun _ => Int.le_refl _)
      · have := gN_b h.gb.wh ((hnb z).2 r1)
        omega
  have ea := of_decide_eq_false g
  rcases i3 with ⟨r1, r2⟩ | ⟨r1, r2, r3⟩
  · omega
  ((conv=>whnf);repeat((first|refine Ct ‹_› ?_|refine Cf ‹_› ?_|refine Ct rfl ?_|refine Cf rfl ?_|refine Bi rfl ?_|refine Bz rfl ?_|refine Lr ?_);conv=>whnf))
  refine Cnd_i (fun g => ?_) (fun g => ?_)
  · have el := of_decide_eq_true g
    ((conv=>whnf);repeat((first|refine Ct ‹_› ?_|refine Cf ‹_› ?_|refine Ct rfl ?_|refine Cf rfl ?_|refine Bi rfl ?_|refine Bz rfl ?_|refine Lr ?_);conv=>whnf))
    refine ⟨l2 - 1, i + 1, x, ?_, by omega, by omega, by omega, .inr ⟨hmem, e, ?_⟩⟩
    · rw [wrapI (n := i + 1) (by omega)]; rfl
    · exact hsplit (P := fun y => B.getD y.toNat 0 = n - q - 1 → x ≤ y) (fun j hj hh => by have := r3 j hj hh; omega) (fun _ => Int.le_refl _)
  · have el := of_decide_eq_false g
    ((conv=>whnf);repeat((first|refine Ct ‹_› ?_|refine Cf ‹_› ?_|refine Ct rfl ?_|refine Cf rfl ?_|refine Bi rfl ?_|refine Bz rfl ?_|refine Lr ?_);conv=>whnf))
    refine ⟨l2 - 1, i + 1, z, ?_, by omega, by omega, by omega, .inr ⟨r1, r2, ?_⟩⟩
    · rw [wrapI (n := i + 1) (by omega)]; rfl
    · exact hsplit (P := fun y => B.getD y.toNat 0 = n - q - 1 → z ≤ y) r3 (fun _ => by omega)

theorem spR_len (b : Brd) (ho : b.Ok) (s : Stt) (t : Int) (F : List Int) : (spR b s t F).1.length ≤ 1048576 := by
  unfold spR
  split
  · rename_i g
    obtain ⟨⟨h, t0, t1⟩, hF6⟩ := SuOk ho g
    have hU := h.un _ (getD_memT (d := Unt.d) t0 t1)
    have hsp := h.gb.sup
    split
    · rename_i g2
      obtain ⟨_, _, _, _, w5⟩ := (wySu_in hU F).2.1 g2
      show ((List.range _).map _).length ≤ _
      rw [List.length_map, List.length_range]
      omega
    · exact Nat.zero_le _
  · exact Nat.zero_le _

theorem F_FnExactSupplyPath (x0 : Brd) (x1 : Stt) (x2 : Int) (x3 : List Int) (o0 : x0.Ok) (o1 : x1.Ok) (o2 : i64 x2) (o3 : okL x3) :
    Fun E0 3 [.agg x0.cs, .agg x1.cs, vI x2, .one (roI x3)] [] (.v (vB true)) [] [] := by
  have hS := F_SupplyPath x0 o0 x1 o1 x2 x3 o3
  have hI := F_SupplyPathI x0 o0 x1 o1 x2 x3 o3
  have hr0 : (spR x0 x1 x2 x3).1.length ≤ 1048576 := spR_len x0 o0 x1 x2 x3
  revert hS hI hr0
  generalize spR x0 x1 x2 x3 = RR
  obtain ⟨r0, r1⟩ := RR
  intro hS hI hr0
  dsimp only at hS
  dsimp only at hI
  dsimp only at hr0
  refine Fun_of_xc k3 rfl rfl (fun k q h => by cases h) ?_
  ((conv=>whnf);repeat((first|refine Ct ‹_› ?_|refine Cf ‹_› ?_|refine Ct rfl ?_|refine Cf rfl ?_|refine Bi rfl ?_|refine Bz rfl ?_|refine Lr ?_);conv=>whnf))
  refine Cnd_i (fun g => ?_) (fun g => ?_)
  · ((conv=>whnf);repeat((first|refine Ct ‹_› ?_|refine Cf ‹_› ?_|refine Ct rfl ?_|refine Cf rfl ?_|refine Bi rfl ?_|refine Bz rfl ?_|refine Lr ?_);conv=>whnf))
    exact ⟨rfl, rfl, rfl⟩
  have l3 : x3.length ≤ 1048576 := by have := of_decide_eq_false g; omega
  ((conv=>whnf);repeat((first|refine Ct ‹_› ?_|refine Cf ‹_› ?_|refine Ct rfl ?_|refine Cf rfl ?_|refine Bi rfl ?_|refine Bz rfl ?_|refine Lr ?_);conv=>whnf))
  (refine CallQ_some (F_szBoard x0 o0 1048576 (by omega) (by omega)) ?_ ?_ ?_; rfl; rfl); ((conv=>whnf);repeat((first|refine Ct ‹_› ?_|refine Cf ‹_› ?_|refine Ct rfl ?_|refine Cf rfl ?_|refine Bi rfl ?_|refine Bz rfl ?_|refine Lr ?_);conv=>whnf))
  refine Cnd_i (fun g => ?_) (fun g => ?_)
  · ((conv=>whnf);repeat((first|refine Ct ‹_› ?_|refine Cf ‹_› ?_|refine Ct rfl ?_|refine Cf rfl ?_|refine Bi rfl ?_|refine Bz rfl ?_|refine Lr ?_);conv=>whnf))
    exact ⟨rfl, rfl, rfl⟩
  have sm0 := szB_sm (b := x0) (x := 1048576) (by omega) (by omega) (of_decide_eq_false g)
  have s0 := sm0.1
  have sb0 := sm0.2
  have sc0 := of_decide_eq_false g
  ((conv=>whnf);repeat((first|refine Ct ‹_› ?_|refine Cf ‹_› ?_|refine Ct rfl ?_|refine Cf rfl ?_|refine Bi rfl ?_|refine Bz rfl ?_|refine Lr ?_);conv=>whnf))
  (refine CallQ_some (F_szState x1 o1 (szB x0 1048576) (by omega) (by omega)) ?_ ?_ ?_; rfl; rfl); ((conv=>whnf);repeat((first|refine Ct ‹_› ?_|refine Cf ‹_› ?_|refine Ct rfl ?_|refine Cf rfl ?_|refine Bi rfl ?_|refine Bz rfl ?_|refine Lr ?_);conv=>whnf))
  refine Cnd_i (fun g => ?_) (fun g => ?_)
  · ((conv=>whnf);repeat((first|refine Ct ‹_› ?_|refine Cf ‹_› ?_|refine Ct rfl ?_|refine Cf rfl ?_|refine Bi rfl ?_|refine Bz rfl ?_|refine Lr ?_);conv=>whnf))
    exact ⟨rfl, rfl, rfl⟩
  have sm1 := szSt_sm (s := x1) (x := szB x0 1048576) (by omega) (by omega) (of_decide_eq_false g)
  have s1 := sm1.1
  have sb1 := sm1.2
  have sc1 := of_decide_eq_false g
  have u1 := s1.un
  ((conv=>whnf);repeat((first|refine Ct ‹_› ?_|refine Cf ‹_› ?_|refine Ct rfl ?_|refine Cf rfl ?_|refine Bi rfl ?_|refine Bz rfl ?_|refine Lr ?_);conv=>whnf))
  (refine CallQ_some (F_toBoard x0 s0) ?_ ?_ ?_; rfl; rfl); ((conv=>whnf);repeat((first|refine Ct ‹_› ?_|refine Cf ‹_› ?_|refine Ct rfl ?_|refine Cf rfl ?_|refine Bi rfl ?_|refine Bz rfl ?_|refine Lr ?_);conv=>whnf))
  (refine CallQ_some (F_toState x1 s1) ?_ ?_ ?_; rfl; rfl); ((conv=>whnf);repeat((first|refine Ct ‹_› ?_|refine Cf ‹_› ?_|refine Ct rfl ?_|refine Cf rfl ?_|refine Bi rfl ?_|refine Bz rfl ?_|refine Lr ?_);conv=>whnf))
  (refine CallQ_some (F_toIntS x3 l3) ?_ ?_ ?_; rfl; rfl); ((conv=>whnf);repeat((first|refine Ct ‹_› ?_|refine Cf ‹_› ?_|refine Ct rfl ?_|refine Cf rfl ?_|refine Bi rfl ?_|refine Bz rfl ?_|refine Lr ?_);conv=>whnf))
  refine CallQ_eq (snapBS x0 x1 _) ?_
  (refine CallQ_some (hS) ?_ ?_ ?_; rfl; rfl); ((conv=>whnf);repeat((first|refine Ct ‹_› ?_|refine Cf ‹_› ?_|refine Ct rfl ?_|refine Cf rfl ?_|refine Bi rfl ?_|refine Bz rfl ?_|refine Lr ?_);conv=>whnf))
  (refine CallQ_some (F_toBoard x0 s0) ?_ ?_ ?_; rfl; rfl); ((conv=>whnf);repeat((first|refine Ct ‹_› ?_|refine Cf ‹_› ?_|refine Ct rfl ?_|refine Cf rfl ?_|refine Bi rfl ?_|refine Bz rfl ?_|refine Lr ?_);conv=>whnf))
  (refine CallQ_some (F_toState x1 s1) ?_ ?_ ?_; rfl; rfl); ((conv=>whnf);repeat((first|refine Ct ‹_› ?_|refine Cf ‹_› ?_|refine Ct rfl ?_|refine Cf rfl ?_|refine Bi rfl ?_|refine Bz rfl ?_|refine Lr ?_);conv=>whnf))
  (refine CallQ_some (F_toIntS x3 l3) ?_ ?_ ?_; rfl; rfl); ((conv=>whnf);repeat((first|refine Ct ‹_› ?_|refine Cf ‹_› ?_|refine Ct rfl ?_|refine Cf rfl ?_|refine Bi rfl ?_|refine Bz rfl ?_|refine Lr ?_);conv=>whnf))
  refine CallQ_eq (snapBS x0 x1 _) ?_
  (refine CallQ_some (hI) ?_ ?_ ?_; rfl; rfl); ((conv=>whnf);repeat((first|refine Ct ‹_› ?_|refine Cf ‹_› ?_|refine Ct rfl ?_|refine Cf rfl ?_|refine Bi rfl ?_|refine Bz rfl ?_|refine Lr ?_);conv=>whnf))
  (refine CallQ_some (F_eqIntS r0 hr0) ?_ ?_ ?_; rfl; rfl); ((conv=>whnf);repeat((first|refine Ct ‹_› ?_|refine Cf ‹_› ?_|refine Ct rfl ?_|refine Cf rfl ?_|refine Bi rfl ?_|refine Bz rfl ?_|refine Lr ?_);conv=>whnf))
  repeat (refine Cnd_f (by simp) ?_; ((conv=>whnf);repeat((first|refine Ct ‹_› ?_|refine Cf ‹_› ?_|refine Ct rfl ?_|refine Cf rfl ?_|refine Bi rfl ?_|refine Bz rfl ?_|refine Lr ?_);conv=>whnf)))
  repeat (refine Cnd_f (by simp) ?_; ((conv=>whnf);repeat((first|refine Ct ‹_› ?_|refine Cf ‹_› ?_|refine Ct rfl ?_|refine Cf rfl ?_|refine Bi rfl ?_|refine Bz rfl ?_|refine Lr ?_);conv=>whnf)))
  (refine CallQ_some (F_toBoard x0 s0) ?_ ?_ ?_; rfl; rfl); ((conv=>whnf);repeat((first|refine Ct ‹_› ?_|refine Cf ‹_› ?_|refine Ct rfl ?_|refine Cf rfl ?_|refine Bi rfl ?_|refine Bz rfl ?_|refine Lr ?_);conv=>whnf))
  refine CallQ_eq (snapBB x0) ?_
  (refine CallQ_some (F_eqBoard x0 s0) ?_ ?_ ?_; rfl; rfl); ((conv=>whnf);repeat((first|refine Ct ‹_› ?_|refine Cf ‹_› ?_|refine Ct rfl ?_|refine Cf rfl ?_|refine Bi rfl ?_|refine Bz rfl ?_|refine Lr ?_);conv=>whnf))
  (refine CallQ_some (F_toState x1 s1) ?_ ?_ ?_; rfl; rfl); ((conv=>whnf);repeat((first|refine Ct ‹_› ?_|refine Cf ‹_› ?_|refine Ct rfl ?_|refine Cf rfl ?_|refine Bi rfl ?_|refine Bz rfl ?_|refine Lr ?_);conv=>whnf))
  refine CallQ_eq (snapSS x1) ?_
  (refine CallQ_some (F_eqState x1 s1) ?_ ?_ ?_; rfl; rfl); ((conv=>whnf);repeat((first|refine Ct ‹_› ?_|refine Cf ‹_› ?_|refine Ct rfl ?_|refine Cf rfl ?_|refine Bi rfl ?_|refine Bz rfl ?_|refine Lr ?_);conv=>whnf))
  (refine CallQ_some (F_toIntS x3 l3) ?_ ?_ ?_; rfl; rfl); ((conv=>whnf);repeat((first|refine Ct ‹_› ?_|refine Cf ‹_› ?_|refine Ct rfl ?_|refine Cf rfl ?_|refine Bi rfl ?_|refine Bz rfl ?_|refine Lr ?_);conv=>whnf))
  (refine CallQ_some (F_eqIntS x3 l3) ?_ ?_ ?_; rfl; rfl); ((conv=>whnf);repeat((first|refine Ct ‹_› ?_|refine Cf ‹_› ?_|refine Ct rfl ?_|refine Cf rfl ?_|refine Bi rfl ?_|refine Bz rfl ?_|refine Lr ?_);conv=>whnf))
  refine CallR_e (F_markBoard x0 s0 1 (by omega) (by omega)) ?_
  rintro _ _ o' ⟨k0, ka0, kb0, rfl, rfl, hs⟩
  obtain ⟨⟨_, q0⟩, ⟨_, q1⟩, ⟨_, q2⟩, ⟨_, q3⟩, ⟨_, q4⟩, rfl, ⟨⟩, ⟨⟩, ⟨⟩, ⟨⟩, ⟨⟩, t0, t1, t2, t3, t4⟩ := shape5 hs
  refine ⟨⟨rfl, t0.1, t0.2.1, t0.2.2, rfl, t1.1, t1.2.1, t1.2.2, rfl, t2.1, t2.2.1, t2.2.2, rfl, t3.1, t3.2.1, t3.2.2, rfl, t4.1, t4.2.1, t4.2.2, trivial⟩, rfl, rfl, ?_⟩
  conv => whnf
  refine ⟨rfl, ?_⟩
  ((conv=>whnf);repeat((first|refine Ct ‹_› ?_|refine Cf ‹_› ?_|refine Ct rfl ?_|refine Cf rfl ?_|refine Bi rfl ?_|refine Bz rfl ?_|refine Lr ?_);conv=>whnf))
  (refine CallR_some (F_markState x1 k0 s1 (by omega) (by omega)) (by repeat (first | exact trivial | refine ⟨rfl, rfl, rfl, rfl, ?_⟩)) ?_ ?_ ?_ ?_; rfl; rfl; rfl); ((conv=>whnf);repeat((first|refine Ct ‹_› ?_|refine Cf ‹_› ?_|refine Ct rfl ?_|refine Cf rfl ?_|refine Bi rfl ?_|refine Bz rfl ?_|refine Lr ?_);conv=>whnf))
  (refine CallR_some (F_markIntS x3 (k0 + 4 * x1.un.length) l3 (by omega) (by omega)) (by repeat (first | exact trivial | refine ⟨rfl, rfl, rfl, rfl, ?_⟩)) ?_ ?_ ?_ ?_; rfl; rfl; rfl); ((conv=>whnf);repeat((first|refine Ct ‹_› ?_|refine Cf ‹_› ?_|refine Ct rfl ?_|refine Cf rfl ?_|refine Bi rfl ?_|refine Bz rfl ?_|refine Lr ?_);conv=>whnf))
  have hkn : decide ((k0 + 4 * x1.un.length + x3.length : Int) < 0) = false := decide_eq_false (by omega)
  ((conv=>whnf);repeat((first|refine Ct ‹_› ?_|refine Cf ‹_› ?_|refine Ct rfl ?_|refine Cf rfl ?_|refine Bi rfl ?_|refine Bz rfl ?_|refine Lr ?_);conv=>whnf))
  (refine CallQ_some (F_eqIntS r0 hr0) ?_ ?_ ?_; rfl; rfl); ((conv=>whnf);repeat((first|refine Ct ‹_› ?_|refine Cf ‹_› ?_|refine Ct rfl ?_|refine Cf rfl ?_|refine Bi rfl ?_|refine Bz rfl ?_|refine Lr ?_);conv=>whnf))
  repeat (refine Cnd_f (by simp) ?_; ((conv=>whnf);repeat((first|refine Ct ‹_› ?_|refine Cf ‹_› ?_|refine Ct rfl ?_|refine Cf rfl ?_|refine Bi rfl ?_|refine Bz rfl ?_|refine Lr ?_);conv=>whnf)))
  repeat (refine Cnd_f (by simp) ?_; ((conv=>whnf);repeat((first|refine Ct ‹_› ?_|refine Cf ‹_› ?_|refine Ct rfl ?_|refine Cf rfl ?_|refine Bi rfl ?_|refine Bz rfl ?_|refine Lr ?_);conv=>whnf)))
  (refine CallR_some (F_markIntS r0 1 hr0 (by omega) (by omega)) (by repeat (first | exact trivial | refine ⟨rfl, rfl, rfl, rfl, ?_⟩)) ?_ ?_ ?_ ?_; rfl; rfl; rfl); ((conv=>whnf);repeat((first|refine Ct ‹_› ?_|refine Cf ‹_› ?_|refine Ct rfl ?_|refine Cf rfl ?_|refine Bi rfl ?_|refine Bz rfl ?_|refine Lr ?_);conv=>whnf))
  (refine CallQ_some (F_heldIntS 1 r0.length hr0 (by omega) (by omega)) ?_ ?_ ?_; rfl; rfl); ((conv=>whnf);repeat((first|refine Ct ‹_› ?_|refine Cf ‹_› ?_|refine Ct rfl ?_|refine Cf rfl ?_|refine Bi rfl ?_|refine Bz rfl ?_|refine Lr ?_);conv=>whnf))
  have hq0 : decide (1 + (r0.length : Int) < 0) = false := decide_eq_false (by omega)
  ((conv=>whnf);repeat((first|refine Ct ‹_› ?_|refine Cf ‹_› ?_|refine Ct rfl ?_|refine Cf rfl ?_|refine Bi rfl ?_|refine Bz rfl ?_|refine Lr ?_);conv=>whnf))
  repeat (refine Cnd_f (by simp) ?_; ((conv=>whnf);repeat((first|refine Ct ‹_› ?_|refine Cf ‹_› ?_|refine Ct rfl ?_|refine Cf rfl ?_|refine Bi rfl ?_|refine Bz rfl ?_|refine Lr ?_);conv=>whnf)))
  (refine CallQ_some (F_toBoard x0 s0) ?_ ?_ ?_; rfl; rfl); ((conv=>whnf);repeat((first|refine Ct ‹_› ?_|refine Cf ‹_› ?_|refine Ct rfl ?_|refine Cf rfl ?_|refine Bi rfl ?_|refine Bz rfl ?_|refine Lr ?_);conv=>whnf))
  (refine CallQ_some (F_toState x1 s1) ?_ ?_ ?_; rfl; rfl); ((conv=>whnf);repeat((first|refine Ct ‹_› ?_|refine Cf ‹_› ?_|refine Ct rfl ?_|refine Cf rfl ?_|refine Bi rfl ?_|refine Bz rfl ?_|refine Lr ?_);conv=>whnf))
  (refine CallQ_some (F_toIntS x3 l3) ?_ ?_ ?_; rfl; rfl); ((conv=>whnf);repeat((first|refine Ct ‹_› ?_|refine Cf ‹_› ?_|refine Ct rfl ?_|refine Cf rfl ?_|refine Bi rfl ?_|refine Bz rfl ?_|refine Lr ?_);conv=>whnf))
  refine CallQ_eq (snapBS x0 x1 _) ?_
  (refine CallQ_some (hI) ?_ ?_ ?_; rfl; rfl); ((conv=>whnf);repeat((first|refine Ct ‹_› ?_|refine Cf ‹_› ?_|refine Ct rfl ?_|refine Cf rfl ?_|refine Bi rfl ?_|refine Bz rfl ?_|refine Lr ?_);conv=>whnf))
  (refine CallQ_some (F_eqIntS r0 hr0) ?_ ?_ ?_; rfl; rfl); ((conv=>whnf);repeat((first|refine Ct ‹_› ?_|refine Cf ‹_› ?_|refine Ct rfl ?_|refine Cf rfl ?_|refine Bi rfl ?_|refine Bz rfl ?_|refine Lr ?_);conv=>whnf))
  repeat (refine Cnd_f (by simp) ?_; ((conv=>whnf);repeat((first|refine Ct ‹_› ?_|refine Cf ‹_› ?_|refine Ct rfl ?_|refine Cf rfl ?_|refine Bi rfl ?_|refine Bz rfl ?_|refine Lr ?_);conv=>whnf)))
  repeat (refine Cnd_f (by simp) ?_; ((conv=>whnf);repeat((first|refine Ct ‹_› ?_|refine Cf ‹_› ?_|refine Ct rfl ?_|refine Cf rfl ?_|refine Bi rfl ?_|refine Bz rfl ?_|refine Lr ?_);conv=>whnf)))
  (refine CallQ_some (F_heldIntS 1 r0.length hr0 (by omega) (by omega)) ?_ ?_ ?_; rfl; rfl); ((conv=>whnf);repeat((first|refine Ct ‹_› ?_|refine Cf ‹_› ?_|refine Ct rfl ?_|refine Cf rfl ?_|refine Bi rfl ?_|refine Bz rfl ?_|refine Lr ?_);conv=>whnf))
  repeat (refine Cnd_f (by simp) ?_; ((conv=>whnf);repeat((first|refine Ct ‹_› ?_|refine Cf ‹_› ?_|refine Ct rfl ?_|refine Cf rfl ?_|refine Bi rfl ?_|refine Bz rfl ?_|refine Lr ?_);conv=>whnf)))
  exact ⟨rfl, rfl, rfl⟩
end Go.Proofs.YtlnfcafoandngaaGreatDoor.Ab
