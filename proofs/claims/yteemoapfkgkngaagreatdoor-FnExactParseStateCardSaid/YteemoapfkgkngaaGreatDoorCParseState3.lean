/- Contracts of the functions that FnExactParseState reaches, by the abstract machine (part 3).
   Conditions: none. -/
import Derived.Test.YteemoapfkgkngaaGreatDoorCParseState2
set_option linter.unusedVariables false
set_option linter.unusedSimpArgs false
namespace Go.Proofs.YteemoapfkgkngaaGreatDoor.Ab
open Go Go.RowKit
attribute [local irreducible] Cnd Bnd Rw CallQ CallR Bts Isn Lc WLoop
set_option maxRecDepth 100000
set_option maxHeartbeats 1000000
theorem ps_rt {b : Brd} {s : Stt} (hb : okBrd b = true) (h : StOk b s) : psS b (stT b s) = some s ∧ psI b (stT b s) = some s := by
  obtain ⟨h1, h2, h3⟩ := st_facts h
  have e0 : gB (spB (stT b s) 10) 0 = mkB (heL s) := by rw [spB_st h.gb h1 h2 h3]; rfl
  have ew := hd_split h1 h2
  constructor
  · unfold psS
    rw [e0, ew, if_pos (show [_, _, _, _].length = 4 from rfl), mid_st h.gb h1 h2 h3, pus_map (fun u hu => (pu_rt hb h.gb (h3 u hu)).1)]
    show some (⟨rdS (dgT s.turn), rdS (dgT s.wea), s.un⟩ : Stt) = some s
    rw [rdS_dg h.turn.1 h1, rdS_dg h.wea.1 h2]
  · unfold psI
    rw [e0, ew, if_pos (show [_, _, _, _].length = 4 from rfl), mid_st h.gb h1 h2 h3, pus_map (fun u hu => (pu_rt hb h.gb (h3 u hu)).2)]
    show (if (rdI (dgT s.turn)).2 = true ∧ (rdI (dgT s.wea)).2 = true then some (⟨(rdI (dgT s.turn)).1, (rdI (dgT s.wea)).1, s.un⟩ : Stt) else none) = some s
    rw [rdI_dg h.turn.1 h1, rdI_dg h.wea.1 h2]
    rfl

theorem fin_eq (b : Brd) (ho : b.Ok) (t : ByteArray) : fin b t (psI b t) = fin b t (psS b t) := by
  have key : ∀ (p : Option Stt) (s : Stt), fin b t p = some s → okBrd b = true ∧ StOk b s ∧ stT b s = t := by
    intro p s h
    cases p with
    | none => cases h
    | some s' =>
      simp only [fin] at h
      split at h
      · rename_i hh
        cases h
        have hb : okBrd b = true := by have := hh.1; rw [Bool.and_eq_true] at this; exact this.1
        exact ⟨hb, StOk.of ho hh.1, nameIs_eq.1 hh.2⟩
      · cases h
  have go : ∀ (p : Option Stt) (s : Stt), fin b t p = some s → fin b t (some s) = some s := by
    intro p s h
    cases p with
    | none => cases h
    | some s' =>
      have h0 := h
      simp only [fin] at h
      split at h
      · cases h; exact h0
      · cases h
  cases hI : fin b t (psI b t) with
  | some s =>
    obtain ⟨h1, h2, h3⟩ := key _ _ hI
    have := (ps_rt h1 h2).1
    rw [h3] at this
    rw [this, go _ _ hI]
  | none =>
    cases hS : fin b t (psS b t) with
    | none => rfl
    | some s =>
      obtain ⟨h1, h2, h3⟩ := key _ _ hS
      have := (ps_rt h1 h2).2
      rw [h3] at this
      rw [this, go _ _ hS] at hI
      cases hI

theorem ParseState_both (b : Brd) (ho : b.Ok) (t : ByteArray) (hl : t.size ≤ 1048576) : (∃ t0 w0 ok, Fun E0 6 [.agg b.cs, vS t] [] (zR t0 w0 ok) [] [] ∧ Fun E0 8 [.agg b.cs, vS t] [] (zR t0 w0 ok) [] []) ∨
    (∃ r ok, r.Sm ∧ Fun E0 6 [.agg b.cs, vS t] [] (oR r ok) [(2, rwU r.un)] [] ∧ Fun E0 8 [.agg b.cs, vS t] [] (oR r ok) [(2, rwU r.un)] []) := by
  have hS := F_ParseState b ho t hl
  have hI := F_ParseStateI b ho t hl
  rw [fin_eq b ho t] at hI
  revert hS hI
  cases hp : fin b t (psS b t) with
  | none => intro hS hI; exact .inl ⟨0, 0, false, hS, hI⟩
  | some s =>
    intro hS hI
    refine .inr ⟨s, true, ⟨?_⟩, hS, hI⟩
    cases hq : psS b t with
    | none => rw [hq] at hp; cases hp
    | some s' =>
      rw [hq] at hp
      simp only [fin] at hp
      split at hp
      · rename_i hh
        cases hp
        have := (StOk.of ho hh.1).len
        omega
      · cases hp

theorem F_FnExactParseStateS (x0 : Brd) (x1 : ByteArray) (o0 : x0.Ok) (o1 : x1.size ≤ 1048576) :
    Fun E0 3 [.agg x0.cs, vS x1] [] (.v (vB true)) [] [] := by
  rcases ParseState_both x0 o0 x1 o1 with ⟨t0, w0, r1, hS, hI⟩ | ⟨r0, r1, hr0, hS, hI⟩
  · refine Fun_of_xc k3 rfl rfl (fun k q h => by cases h) ?_
    ((conv=>whnf);repeat((first|refine Ct ‹_› ?_|refine Cf ‹_› ?_|refine Ct rfl ?_|refine Cf rfl ?_|refine Bi rfl ?_|refine Bz rfl ?_|refine Lr ?_);conv=>whnf))
    refine Cnd_i (fun g => ?_) (fun g => ?_)
    · ((conv=>whnf);repeat((first|refine Ct ‹_› ?_|refine Cf ‹_› ?_|refine Ct rfl ?_|refine Cf rfl ?_|refine Bi rfl ?_|refine Bz rfl ?_|refine Lr ?_);conv=>whnf))
      exact ⟨rfl, rfl, rfl⟩
    have l1 : x1.size ≤ 1048576 := by have := of_decide_eq_false g; omega
    ((conv=>whnf);repeat((first|refine Ct ‹_› ?_|refine Cf ‹_› ?_|refine Ct rfl ?_|refine Cf rfl ?_|refine Bi rfl ?_|refine Bz rfl ?_|refine Lr ?_);conv=>whnf))
    (refine CallQ_some (F_szBoard x0 o0 1048576 (by omega) (by omega)) ?_ ?_ ?_; rfl; rfl); ((conv=>whnf);repeat((first|refine Ct ‹_› ?_|refine Cf ‹_› ?_|refine Ct rfl ?_|refine Cf rfl ?_|refine Bi rfl ?_|refine Bz rfl ?_|refine Lr ?_);conv=>whnf))
    refine Cnd_i (fun g => ?_) (fun g => ?_)
    · ((conv=>whnf);repeat((first|refine Ct ‹_› ?_|refine Cf ‹_› ?_|refine Ct rfl ?_|refine Cf rfl ?_|refine Bi rfl ?_|refine Bz rfl ?_|refine Lr ?_);conv=>whnf))
      exact ⟨rfl, rfl, rfl⟩
    have sm0 := szB_sm (b := x0) (x := 1048576) (by omega) (by omega) (of_decide_eq_false g)
    have s0 := sm0.1
    have sb0 := sm0.2
    have sc0 := of_decide_eq_false g
    ((conv=>whnf);repeat((first|refine Ct ‹_› ?_|refine Cf ‹_› ?_|refine Ct rfl ?_|refine Cf rfl ?_|refine Bi rfl ?_|refine Bz rfl ?_|refine Lr ?_);conv=>whnf))
    (refine CallQ_some (F_toBoard x0 s0) ?_ ?_ ?_; rfl; rfl); ((conv=>whnf);repeat((first|refine Ct ‹_› ?_|refine Cf ‹_› ?_|refine Ct rfl ?_|refine Cf rfl ?_|refine Bi rfl ?_|refine Bz rfl ?_|refine Lr ?_);conv=>whnf))
    refine CallQ_eq (snapB x0 _) ?_
    (refine CallQ_some (hS) ?_ ?_ ?_; rfl; rfl); ((conv=>whnf);repeat((first|refine Ct ‹_› ?_|refine Cf ‹_› ?_|refine Ct rfl ?_|refine Cf rfl ?_|refine Bi rfl ?_|refine Bz rfl ?_|refine Lr ?_);conv=>whnf))
    (refine CallQ_some (F_toBoard x0 s0) ?_ ?_ ?_; rfl; rfl); ((conv=>whnf);repeat((first|refine Ct ‹_› ?_|refine Cf ‹_› ?_|refine Ct rfl ?_|refine Cf rfl ?_|refine Bi rfl ?_|refine Bz rfl ?_|refine Lr ?_);conv=>whnf))
    refine CallQ_eq (snapB x0 _) ?_
    (refine CallQ_some (hI) ?_ ?_ ?_; rfl; rfl); ((conv=>whnf);repeat((first|refine Ct ‹_› ?_|refine Cf ‹_› ?_|refine Ct rfl ?_|refine Cf rfl ?_|refine Bi rfl ?_|refine Bz rfl ?_|refine Lr ?_);conv=>whnf))
    (refine CallQ_some (F_eqState0 t0 w0) ?_ ?_ ?_; rfl; rfl); ((conv=>whnf);repeat((first|refine Ct ‹_› ?_|refine Cf ‹_› ?_|refine Ct rfl ?_|refine Cf rfl ?_|refine Bi rfl ?_|refine Bz rfl ?_|refine Lr ?_);conv=>whnf))
    repeat (refine Cnd_f (by simp) ?_; ((conv=>whnf);repeat((first|refine Ct ‹_› ?_|refine Cf ‹_› ?_|refine Ct rfl ?_|refine Cf rfl ?_|refine Bi rfl ?_|refine Bz rfl ?_|refine Lr ?_);conv=>whnf)))
    repeat (refine Cnd_f (by simp) ?_; ((conv=>whnf);repeat((first|refine Ct ‹_› ?_|refine Cf ‹_› ?_|refine Ct rfl ?_|refine Cf rfl ?_|refine Bi rfl ?_|refine Bz rfl ?_|refine Lr ?_);conv=>whnf)))
    (refine CallQ_some (F_toBoard x0 s0) ?_ ?_ ?_; rfl; rfl); ((conv=>whnf);repeat((first|refine Ct ‹_› ?_|refine Cf ‹_› ?_|refine Ct rfl ?_|refine Cf rfl ?_|refine Bi rfl ?_|refine Bz rfl ?_|refine Lr ?_);conv=>whnf))
    refine CallQ_eq (snapBB x0) ?_
    (refine CallQ_some (F_eqBoard x0 s0) ?_ ?_ ?_; rfl; rfl); ((conv=>whnf);repeat((first|refine Ct ‹_› ?_|refine Cf ‹_› ?_|refine Ct rfl ?_|refine Cf rfl ?_|refine Bi rfl ?_|refine Bz rfl ?_|refine Lr ?_);conv=>whnf))
    refine CallR_e (F_markBoard x0 s0 1 (by omega) (by omega)) ?_
    rintro _ _ o' ⟨k0, ka0, kb0, rfl, rfl, hs⟩
    obtain ⟨⟨_, q0⟩, ⟨_, q1⟩, ⟨_, q2⟩, ⟨_, q3⟩, ⟨_, q4⟩, rfl, ⟨⟩, ⟨⟩, ⟨⟩, ⟨⟩, ⟨⟩, tq0, tq1, tq2, tq3, tq4⟩ := shape5 hs
    refine ⟨⟨rfl, tq0.1, tq0.2.1, tq0.2.2, rfl, tq1.1, tq1.2.1, tq1.2.2, rfl, tq2.1, tq2.2.1, tq2.2.2, rfl, tq3.1, tq3.2.1, tq3.2.2, rfl, tq4.1, tq4.2.1, tq4.2.2, trivial⟩, rfl, rfl, ?_⟩
    conv => whnf
    refine ⟨rfl, ?_⟩
    ((conv=>whnf);repeat((first|refine Ct ‹_› ?_|refine Cf ‹_› ?_|refine Ct rfl ?_|refine Cf rfl ?_|refine Bi rfl ?_|refine Bz rfl ?_|refine Lr ?_);conv=>whnf))
    have hkn : decide ((k0 : Int) < 0) = false := decide_eq_false (by omega)
    ((conv=>whnf);repeat((first|refine Ct ‹_› ?_|refine Cf ‹_› ?_|refine Ct rfl ?_|refine Cf rfl ?_|refine Bi rfl ?_|refine Bz rfl ?_|refine Lr ?_);conv=>whnf))
    (refine CallQ_some (F_eqState0 t0 w0) ?_ ?_ ?_; rfl; rfl); ((conv=>whnf);repeat((first|refine Ct ‹_› ?_|refine Cf ‹_› ?_|refine Ct rfl ?_|refine Cf rfl ?_|refine Bi rfl ?_|refine Bz rfl ?_|refine Lr ?_);conv=>whnf))
    repeat (refine Cnd_f (by simp) ?_; ((conv=>whnf);repeat((first|refine Ct ‹_› ?_|refine Cf ‹_› ?_|refine Ct rfl ?_|refine Cf rfl ?_|refine Bi rfl ?_|refine Bz rfl ?_|refine Lr ?_);conv=>whnf)))
    repeat (refine Cnd_f (by simp) ?_; ((conv=>whnf);repeat((first|refine Ct ‹_› ?_|refine Cf ‹_› ?_|refine Ct rfl ?_|refine Cf rfl ?_|refine Bi rfl ?_|refine Bz rfl ?_|refine Lr ?_);conv=>whnf)))
    (refine CallR_some (F_markState0 t0 w0 1) (by repeat (first | exact trivial | refine ⟨rfl, rfl, rfl, rfl, ?_⟩)) ?_ ?_ ?_ ?_; rfl; rfl; rfl); ((conv=>whnf);repeat((first|refine Ct ‹_› ?_|refine Cf ‹_› ?_|refine Ct rfl ?_|refine Cf rfl ?_|refine Bi rfl ?_|refine Bz rfl ?_|refine Lr ?_);conv=>whnf))
    (refine CallQ_some (F_heldState0 t0 w0 1 (by omega) (by omega)) ?_ ?_ ?_; rfl; rfl); ((conv=>whnf);repeat((first|refine Ct ‹_› ?_|refine Cf ‹_› ?_|refine Ct rfl ?_|refine Cf rfl ?_|refine Bi rfl ?_|refine Bz rfl ?_|refine Lr ?_);conv=>whnf))
    repeat (refine Cnd_f (by simp) ?_; ((conv=>whnf);repeat((first|refine Ct ‹_› ?_|refine Cf ‹_› ?_|refine Ct rfl ?_|refine Cf rfl ?_|refine Bi rfl ?_|refine Bz rfl ?_|refine Lr ?_);conv=>whnf)))
    (refine CallQ_some (F_toBoard x0 s0) ?_ ?_ ?_; rfl; rfl); ((conv=>whnf);repeat((first|refine Ct ‹_› ?_|refine Cf ‹_› ?_|refine Ct rfl ?_|refine Cf rfl ?_|refine Bi rfl ?_|refine Bz rfl ?_|refine Lr ?_);conv=>whnf))
    refine CallQ_eq (snapB x0 _) ?_
    (refine CallQ_some (hI) ?_ ?_ ?_; rfl; rfl); ((conv=>whnf);repeat((first|refine Ct ‹_› ?_|refine Cf ‹_› ?_|refine Ct rfl ?_|refine Cf rfl ?_|refine Bi rfl ?_|refine Bz rfl ?_|refine Lr ?_);conv=>whnf))
    (refine CallQ_some (F_eqState0 t0 w0) ?_ ?_ ?_; rfl; rfl); ((conv=>whnf);repeat((first|refine Ct ‹_› ?_|refine Cf ‹_› ?_|refine Ct rfl ?_|refine Cf rfl ?_|refine Bi rfl ?_|refine Bz rfl ?_|refine Lr ?_);conv=>whnf))
    repeat (refine Cnd_f (by simp) ?_; ((conv=>whnf);repeat((first|refine Ct ‹_› ?_|refine Cf ‹_› ?_|refine Ct rfl ?_|refine Cf rfl ?_|refine Bi rfl ?_|refine Bz rfl ?_|refine Lr ?_);conv=>whnf)))
    repeat (refine Cnd_f (by simp) ?_; ((conv=>whnf);repeat((first|refine Ct ‹_› ?_|refine Cf ‹_› ?_|refine Ct rfl ?_|refine Cf rfl ?_|refine Bi rfl ?_|refine Bz rfl ?_|refine Lr ?_);conv=>whnf)))
    (refine CallQ_some (F_heldState0 t0 w0 1 (by omega) (by omega)) ?_ ?_ ?_; rfl; rfl); ((conv=>whnf);repeat((first|refine Ct ‹_› ?_|refine Cf ‹_› ?_|refine Ct rfl ?_|refine Cf rfl ?_|refine Bi rfl ?_|refine Bz rfl ?_|refine Lr ?_);conv=>whnf))
    repeat (refine Cnd_f (by simp) ?_; ((conv=>whnf);repeat((first|refine Ct ‹_› ?_|refine Cf ‹_› ?_|refine Ct rfl ?_|refine Cf rfl ?_|refine Bi rfl ?_|refine Bz rfl ?_|refine Lr ?_);conv=>whnf)))
    exact ⟨rfl, rfl, rfl⟩
  · refine Fun_of_xc k3 rfl rfl (fun k q h => by cases h) ?_
    ((conv=>whnf);repeat((first|refine Ct ‹_› ?_|refine Cf ‹_› ?_|refine Ct rfl ?_|refine Cf rfl ?_|refine Bi rfl ?_|refine Bz rfl ?_|refine Lr ?_);conv=>whnf))
    refine Cnd_i (fun g => ?_) (fun g => ?_)
    · ((conv=>whnf);repeat((first|refine Ct ‹_› ?_|refine Cf ‹_› ?_|refine Ct rfl ?_|refine Cf rfl ?_|refine Bi rfl ?_|refine Bz rfl ?_|refine Lr ?_);conv=>whnf))
      exact ⟨rfl, rfl, rfl⟩
    have l1 : x1.size ≤ 1048576 := by have := of_decide_eq_false g; omega
    ((conv=>whnf);repeat((first|refine Ct ‹_› ?_|refine Cf ‹_› ?_|refine Ct rfl ?_|refine Cf rfl ?_|refine Bi rfl ?_|refine Bz rfl ?_|refine Lr ?_);conv=>whnf))
    (refine CallQ_some (F_szBoard x0 o0 1048576 (by omega) (by omega)) ?_ ?_ ?_; rfl; rfl); ((conv=>whnf);repeat((first|refine Ct ‹_› ?_|refine Cf ‹_› ?_|refine Ct rfl ?_|refine Cf rfl ?_|refine Bi rfl ?_|refine Bz rfl ?_|refine Lr ?_);conv=>whnf))
    refine Cnd_i (fun g => ?_) (fun g => ?_)
    · ((conv=>whnf);repeat((first|refine Ct ‹_› ?_|refine Cf ‹_› ?_|refine Ct rfl ?_|refine Cf rfl ?_|refine Bi rfl ?_|refine Bz rfl ?_|refine Lr ?_);conv=>whnf))
      exact ⟨rfl, rfl, rfl⟩
    have sm0 := szB_sm (b := x0) (x := 1048576) (by omega) (by omega) (of_decide_eq_false g)
    have s0 := sm0.1
    have sb0 := sm0.2
    have sc0 := of_decide_eq_false g
    ((conv=>whnf);repeat((first|refine Ct ‹_› ?_|refine Cf ‹_› ?_|refine Ct rfl ?_|refine Cf rfl ?_|refine Bi rfl ?_|refine Bz rfl ?_|refine Lr ?_);conv=>whnf))
    (refine CallQ_some (F_toBoard x0 s0) ?_ ?_ ?_; rfl; rfl); ((conv=>whnf);repeat((first|refine Ct ‹_› ?_|refine Cf ‹_› ?_|refine Ct rfl ?_|refine Cf rfl ?_|refine Bi rfl ?_|refine Bz rfl ?_|refine Lr ?_);conv=>whnf))
    refine CallQ_eq (snapB x0 _) ?_
    (refine CallQ_some (hS) ?_ ?_ ?_; rfl; rfl); ((conv=>whnf);repeat((first|refine Ct ‹_› ?_|refine Cf ‹_› ?_|refine Ct rfl ?_|refine Cf rfl ?_|refine Bi rfl ?_|refine Bz rfl ?_|refine Lr ?_);conv=>whnf))
    (refine CallQ_some (F_toBoard x0 s0) ?_ ?_ ?_; rfl; rfl); ((conv=>whnf);repeat((first|refine Ct ‹_› ?_|refine Cf ‹_› ?_|refine Ct rfl ?_|refine Cf rfl ?_|refine Bi rfl ?_|refine Bz rfl ?_|refine Lr ?_);conv=>whnf))
    refine CallQ_eq (snapB x0 _) ?_
    (refine CallQ_some (hI) ?_ ?_ ?_; rfl; rfl); ((conv=>whnf);repeat((first|refine Ct ‹_› ?_|refine Cf ‹_› ?_|refine Ct rfl ?_|refine Cf rfl ?_|refine Bi rfl ?_|refine Bz rfl ?_|refine Lr ?_);conv=>whnf))
    refine CallQ_eq (snapSS r0) ?_
    (refine CallQ_some (F_eqState r0 hr0) ?_ ?_ ?_; rfl; rfl); ((conv=>whnf);repeat((first|refine Ct ‹_› ?_|refine Cf ‹_› ?_|refine Ct rfl ?_|refine Cf rfl ?_|refine Bi rfl ?_|refine Bz rfl ?_|refine Lr ?_);conv=>whnf))
    repeat (refine Cnd_f (by simp) ?_; ((conv=>whnf);repeat((first|refine Ct ‹_› ?_|refine Cf ‹_› ?_|refine Ct rfl ?_|refine Cf rfl ?_|refine Bi rfl ?_|refine Bz rfl ?_|refine Lr ?_);conv=>whnf)))
    repeat (refine Cnd_f (by simp) ?_; ((conv=>whnf);repeat((first|refine Ct ‹_› ?_|refine Cf ‹_› ?_|refine Ct rfl ?_|refine Cf rfl ?_|refine Bi rfl ?_|refine Bz rfl ?_|refine Lr ?_);conv=>whnf)))
    (refine CallQ_some (F_toBoard x0 s0) ?_ ?_ ?_; rfl; rfl); ((conv=>whnf);repeat((first|refine Ct ‹_› ?_|refine Cf ‹_› ?_|refine Ct rfl ?_|refine Cf rfl ?_|refine Bi rfl ?_|refine Bz rfl ?_|refine Lr ?_);conv=>whnf))
    refine CallQ_eq (snapBB x0) ?_
    (refine CallQ_some (F_eqBoard x0 s0) ?_ ?_ ?_; rfl; rfl); ((conv=>whnf);repeat((first|refine Ct ‹_› ?_|refine Cf ‹_› ?_|refine Ct rfl ?_|refine Cf rfl ?_|refine Bi rfl ?_|refine Bz rfl ?_|refine Lr ?_);conv=>whnf))
    refine CallR_e (F_markBoard x0 s0 1 (by omega) (by omega)) ?_
    rintro _ _ o' ⟨k0, ka0, kb0, rfl, rfl, hs⟩
    obtain ⟨⟨_, q0⟩, ⟨_, q1⟩, ⟨_, q2⟩, ⟨_, q3⟩, ⟨_, q4⟩, rfl, ⟨⟩, ⟨⟩, ⟨⟩, ⟨⟩, ⟨⟩, tq0, tq1, tq2, tq3, tq4⟩ := shape5 hs
    refine ⟨⟨rfl, tq0.1, tq0.2.1, tq0.2.2, rfl, tq1.1, tq1.2.1, tq1.2.2, rfl, tq2.1, tq2.2.1, tq2.2.2, rfl, tq3.1, tq3.2.1, tq3.2.2, rfl, tq4.1, tq4.2.1, tq4.2.2, trivial⟩, rfl, rfl, ?_⟩
    conv => whnf
    refine ⟨rfl, ?_⟩
    ((conv=>whnf);repeat((first|refine Ct ‹_› ?_|refine Cf ‹_› ?_|refine Ct rfl ?_|refine Cf rfl ?_|refine Bi rfl ?_|refine Bz rfl ?_|refine Lr ?_);conv=>whnf))
    have hkn : decide ((k0 : Int) < 0) = false := decide_eq_false (by omega)
    ((conv=>whnf);repeat((first|refine Ct ‹_› ?_|refine Cf ‹_› ?_|refine Ct rfl ?_|refine Cf rfl ?_|refine Bi rfl ?_|refine Bz rfl ?_|refine Lr ?_);conv=>whnf))
    refine CallQ_eq (snapSS r0) ?_
    (refine CallQ_some (F_eqState r0 hr0) ?_ ?_ ?_; rfl; rfl); ((conv=>whnf);repeat((first|refine Ct ‹_› ?_|refine Cf ‹_› ?_|refine Ct rfl ?_|refine Cf rfl ?_|refine Bi rfl ?_|refine Bz rfl ?_|refine Lr ?_);conv=>whnf))
    repeat (refine Cnd_f (by simp) ?_; ((conv=>whnf);repeat((first|refine Ct ‹_› ?_|refine Cf ‹_› ?_|refine Ct rfl ?_|refine Cf rfl ?_|refine Bi rfl ?_|refine Bz rfl ?_|refine Lr ?_);conv=>whnf)))
    repeat (refine Cnd_f (by simp) ?_; ((conv=>whnf);repeat((first|refine Ct ‹_› ?_|refine Cf ‹_› ?_|refine Ct rfl ?_|refine Cf rfl ?_|refine Bi rfl ?_|refine Bz rfl ?_|refine Lr ?_);conv=>whnf)))
    (refine CallR_some (F_markState r0 1 hr0 (by omega) (by omega)) (by repeat (first | exact trivial | refine ⟨rfl, rfl, rfl, rfl, ?_⟩)) ?_ ?_ ?_ ?_; rfl; rfl; rfl); ((conv=>whnf);repeat((first|refine Ct ‹_› ?_|refine Cf ‹_› ?_|refine Ct rfl ?_|refine Cf rfl ?_|refine Bi rfl ?_|refine Bz rfl ?_|refine Lr ?_);conv=>whnf))
    refine CallQ_eq (snapSm r0 1 _) ?_
    (refine CallQ_some (F_heldState r0 1 hr0 (by omega) (by omega)) ?_ ?_ ?_; rfl; rfl); ((conv=>whnf);repeat((first|refine Ct ‹_› ?_|refine Cf ‹_› ?_|refine Ct rfl ?_|refine Cf rfl ?_|refine Bi rfl ?_|refine Bz rfl ?_|refine Lr ?_);conv=>whnf))
    have hq0 : decide (1 + 4 * (r0.un.length : Int) < 0) = false := decide_eq_false (by omega)
    ((conv=>whnf);repeat((first|refine Ct ‹_› ?_|refine Cf ‹_› ?_|refine Ct rfl ?_|refine Cf rfl ?_|refine Bi rfl ?_|refine Bz rfl ?_|refine Lr ?_);conv=>whnf))
    repeat (refine Cnd_f (by simp) ?_; ((conv=>whnf);repeat((first|refine Ct ‹_› ?_|refine Cf ‹_› ?_|refine Ct rfl ?_|refine Cf rfl ?_|refine Bi rfl ?_|refine Bz rfl ?_|refine Lr ?_);conv=>whnf)))
    (refine CallQ_some (F_toBoard x0 s0) ?_ ?_ ?_; rfl; rfl); ((conv=>whnf);repeat((first|refine Ct ‹_› ?_|refine Cf ‹_› ?_|refine Ct rfl ?_|refine Cf rfl ?_|refine Bi rfl ?_|refine Bz rfl ?_|refine Lr ?_);conv=>whnf))
    refine CallQ_eq (snapB x0 _) ?_
    (refine CallQ_some (hI) ?_ ?_ ?_; rfl; rfl); ((conv=>whnf);repeat((first|refine Ct ‹_› ?_|refine Cf ‹_› ?_|refine Ct rfl ?_|refine Cf rfl ?_|refine Bi rfl ?_|refine Bz rfl ?_|refine Lr ?_);conv=>whnf))
    refine CallQ_eq (snapSS r0) ?_
    (refine CallQ_some (F_eqState r0 hr0) ?_ ?_ ?_; rfl; rfl); ((conv=>whnf);repeat((first|refine Ct ‹_› ?_|refine Cf ‹_› ?_|refine Ct rfl ?_|refine Cf rfl ?_|refine Bi rfl ?_|refine Bz rfl ?_|refine Lr ?_);conv=>whnf))
    repeat (refine Cnd_f (by simp) ?_; ((conv=>whnf);repeat((first|refine Ct ‹_› ?_|refine Cf ‹_› ?_|refine Ct rfl ?_|refine Cf rfl ?_|refine Bi rfl ?_|refine Bz rfl ?_|refine Lr ?_);conv=>whnf)))
    repeat (refine Cnd_f (by simp) ?_; ((conv=>whnf);repeat((first|refine Ct ‹_› ?_|refine Cf ‹_› ?_|refine Ct rfl ?_|refine Cf rfl ?_|refine Bi rfl ?_|refine Bz rfl ?_|refine Lr ?_);conv=>whnf)))
    refine CallQ_eq (snapSm r0 1 _) ?_
    (refine CallQ_some (F_heldState r0 1 hr0 (by omega) (by omega)) ?_ ?_ ?_; rfl; rfl); ((conv=>whnf);repeat((first|refine Ct ‹_› ?_|refine Cf ‹_› ?_|refine Ct rfl ?_|refine Cf rfl ?_|refine Bi rfl ?_|refine Bz rfl ?_|refine Lr ?_);conv=>whnf))
    repeat (refine Cnd_f (by simp) ?_; ((conv=>whnf);repeat((first|refine Ct ‹_› ?_|refine Cf ‹_› ?_|refine Ct rfl ?_|refine Cf rfl ?_|refine Bi rfl ?_|refine Bz rfl ?_|refine Lr ?_);conv=>whnf)))
    exact ⟨rfl, rfl, rfl⟩

theorem F_FnExactParseState (x0 : Brd) (x1 : ByteArray) (o0 : x0.Ok) (o1 : x1.size ≤ maxLen) :
    Fun E0 3 [.agg x0.cs, vS x1] [] (.v (vB true)) [] [] := by
  by_cases hl : x1.size ≤ 1048576
  · exact F_FnExactParseStateS x0 x1 o0 hl
  · refine Fun_of_xc k3 rfl rfl (fun k q h => by cases h) ?_
    ((conv=>whnf);repeat((first|refine Ct ‹_› ?_|refine Cf ‹_› ?_|refine Ct rfl ?_|refine Cf rfl ?_|refine Bi rfl ?_|refine Bz rfl ?_|refine Lr ?_);conv=>whnf))
    refine Cnd_t (decide_eq_true (by omega)) ?_
    ((conv=>whnf);repeat((first|refine Ct ‹_› ?_|refine Cf ‹_› ?_|refine Ct rfl ?_|refine Cf rfl ?_|refine Bi rfl ?_|refine Bz rfl ?_|refine Lr ?_);conv=>whnf))
    exact ⟨rfl, rfl, rfl⟩
end Go.Proofs.YteemoapfkgkngaaGreatDoor.Ab
