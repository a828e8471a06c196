/- Contracts of the functions that FnExactLoseUnsupplied reaches, by the abstract machine (part 3).
   Conditions: none. -/
import Derived.Test.YtbcohkgcakgpcaaGreatDoorCLoseUnsupplied2
set_option linter.unusedVariables false
set_option linter.unusedSimpArgs false
namespace Go.Proofs.YtbcohkgcakgpcaaGreatDoor.Ab
open Go Go.RowKit
attribute [local irreducible] Cnd Bnd Rw CallQ CallR Bts Isn Lc WLoop
set_option maxRecDepth 100000
set_option maxHeartbeats 1000000
theorem F_areSources_1 (b : Brd) (h : GB b) (x : Int) : Fun E0 59 [vI x, .one (.pro 12 fun j => nth b.cs j)] [] (.v (vB (!In x 0 (b.m.ter.length - 1)))) [] [] := by
  have hm := h.wh.mul
  have hn := h.n
  refine Fun_of_xc k59 rfl rfl (fun k q h => by cases h) ?_
  ((conv=>whnf);repeat((first|refine Ct ‹_› ?_|refine Cf ‹_› ?_|refine Ct rfl ?_|refine Cf rfl ?_|refine Bi rfl ?_|refine Bz rfl ?_|refine Lr ?_);conv=>whnf))
  (refine CallQ_some (F_sizeOf b) ?_ ?_ ?_; rfl; rfl); ((conv=>whnf);repeat((first|refine Ct ‹_› ?_|refine Cf ‹_› ?_|refine Ct rfl ?_|refine Cf rfl ?_|refine Bi rfl ?_|refine Bz rfl ?_|refine Lr ?_);conv=>whnf))
  (refine CallQ_some (F_isIndex x b.m.ter.length ⟨by unfold i64; omega, by omega⟩) ?_ ?_ ?_; rfl; rfl); ((conv=>whnf);repeat((first|refine Ct ‹_› ?_|refine Cf ‹_› ?_|refine Ct rfl ?_|refine Cf rfl ?_|refine Bi rfl ?_|refine Bz rfl ?_|refine Lr ?_);conv=>whnf))
  exact ⟨rfl, rfl, rfl⟩

theorem F_areSources (b : Brd) (h : GB b) (F : List Int) (hF : okL F) : Fun E0 30 [.agg b.cs, .one (roI F)] [] (.v (vB (okSr b F))) [] [] := by
  have hany : (F.any fun x => !In x 0 (b.m.ter.length - 1)) = !(F.all fun x => In x 0 (b.m.ter.length - 1)) := by rw [List.not_all_eq_any_not]
  refine Fun_of_xc k30 rfl rfl (fun k q h => by cases h) ?_
  ((conv=>whnf);repeat((first|refine Ct ‹_› ?_|refine Cf ‹_› ?_|refine Ct rfl ?_|refine Cf rfl ?_|refine Bi rfl ?_|refine Bz rfl ?_|refine Lr ?_);conv=>whnf))
  refine Cnd_i (fun g => ?_) (fun g => ?_)
  · ((conv=>whnf);repeat((first|refine Ct ‹_› ?_|refine Cf ‹_› ?_|refine Ct rfl ?_|refine Cf rfl ?_|refine Bi rfl ?_|refine Bz rfl ?_|refine Lr ?_);conv=>whnf))
    (refine CallQ_some (F_increasing F hF.len) ?_ ?_ ?_; rfl; rfl); ((conv=>whnf);repeat((first|refine Ct ‹_› ?_|refine Cf ‹_› ?_|refine Ct rfl ?_|refine Cf rfl ?_|refine Bi rfl ?_|refine Bz rfl ?_|refine Lr ?_);conv=>whnf))
    refine Cnd_i (fun g2 => ?_) (fun g2 => ?_)
    · ((conv=>whnf);repeat((first|refine Ct ‹_› ?_|refine Cf ‹_› ?_|refine Ct rfl ?_|refine Cf rfl ?_|refine Bi rfl ?_|refine Bz rfl ?_|refine Lr ?_);conv=>whnf))
      (refine CallQ_some (F_ContainsFuncI F (fun x => !In x 0 (b.m.ter.length - 1)) 59 1 _ _ [.one (.pro 12 fun j => nth b.cs j)] rfl hF.len (fun x _ => F_areSources_1 b h x)) ?_ ?_ ?_; rfl; rfl); ((conv=>whnf);repeat((first|refine Ct ‹_› ?_|refine Cf ‹_› ?_|refine Ct rfl ?_|refine Cf rfl ?_|refine Bi rfl ?_|refine Bz rfl ?_|refine Lr ?_);conv=>whnf))
      rw [okSr, g, okAv, g2, hany, Bool.true_and, Bool.and_true, Bool.not_not]
      exact ⟨rfl, rfl, rfl⟩
    · ((conv=>whnf);repeat((first|refine Ct ‹_› ?_|refine Cf ‹_› ?_|refine Ct rfl ?_|refine Cf rfl ?_|refine Bi rfl ?_|refine Bz rfl ?_|refine Lr ?_);conv=>whnf))
      rw [okSr, g, okAv, g2, Bool.and_false, Bool.and_false]
      exact ⟨rfl, rfl, rfl⟩
  · ((conv=>whnf);repeat((first|refine Ct ‹_› ?_|refine Cf ‹_› ?_|refine Ct rfl ?_|refine Cf rfl ?_|refine Bi rfl ?_|refine Bz rfl ?_|refine Lr ?_);conv=>whnf))
    rw [okSr, g, Bool.false_and]
    exact ⟨rfl, rfl, rfl⟩

/-- how far each place is from the sources -/
noncomputable def splB (b : Brd) (s : Stt) (side kind : Int) (F : List Int) : List Int := spL b.m (opBs b s side kind) F

theorem splB_len (b : Brd) (s : Stt) (side kind : Int) (F : List Int) : (splB b s side kind F).length = b.m.ter.length := by unfold splB; rw [spL_len, opBs_len]

theorem splB_low (b : Brd) (s : Stt) (side kind : Int) (F : List Int) (j : Nat) (hj : j < b.m.ter.length) : -1 ≤ (splB b s side kind F).getD j 0 := (spL_ok b.m (opBs b s side kind) F).low j (by rw [opBs_len]; exact hj)

theorem F_jFarB (b : Brd) (h : GB b) (s : Stt) (side kind : Int) (F : List Int) (hF : okSr b F = true) : Fun E0 98 [.agg b.m.cs, .one (roB (opBs b s side kind)), .one (roI F)] [] (.v (.one (.own 0 (splB b s side kind F).length))) [(0, rwI (splB b s side kind F))] [] := by
  obtain ⟨h1, h2⟩ := okSr_mem hF
  have hn := h.n
  have hl := opBs_len b s side kind
  exact F_jFar b.m h.wh _ F (by omega) h1 (fun x hx => by have := h2 x hx; omega)

theorem F_spreadB (b : Brd) (h : GB b) (s : Stt) (side kind : Int) (F : List Int) (hF : okSr b F = true) : Fun E0 105 [.agg b.m.cs, .one (roB (opBs b s side kind)), .one (roI F)] [] (.v (.one (.own 0 (splB b s side kind F).length))) [(0, rwI (splB b s side kind F))] [] := by
  obtain ⟨h1, h2⟩ := okSr_mem hF
  have hn := h.n
  have hl := opBs_len b s side kind
  exact F_spread b.m h.wh _ F (by omega) h1 (fun x hx => by have := h2 x hx; omega)

noncomputable abbrev farU (b : Brd) (s : Stt) (u : Unt) (F : List Int) : Int := (splB b s u.side u.kind F).getD u.at'.toNat 0

/-- is a unit in supply; how far it is from its sources -/
noncomputable def inSu (b : Brd) (s : Stt) (u : Unt) (F : List Int) : Bool := if decide (u.at' < 0) = true then false else In (farU b s u F) 0 b.r.supply

noncomputable def wySu (b : Brd) (s : Stt) (u : Unt) (F : List Int) : Int := if decide (u.at' < 0) = true then -1 else if decide (farU b s u F > b.r.supply) = true then -1 else farU b s u F

theorem wySu_in {b : Brd} {s : Stt} {u : Unt} (hU : UnOk b u) (F : List Int) : decide (wySu b s u F ≥ 0) = inSu b s u F ∧ (inSu b s u F = true → wySu b s u F = farU b s u F ∧ 0 ≤ u.at' ∧ u.at' < b.m.ter.length ∧ 0 ≤ farU b s u F ∧ farU b s u F ≤ b.r.supply) ∧ (inSu b s u F = false → wySu b s u F < 0) := by
  have ha := hU.at'
  unfold wySu inSu
  by_cases h : u.at' < 0
  · rw [decide_eq_true h]; simp
  · rw [decide_eq_false h]
    simp only [Bool.false_eq_true, if_false]
    have hl := splB_low b s u.side u.kind F u.at'.toNat (by omega)
    unfold In farU
    generalize (splB b s u.side u.kind F).getD u.at'.toNat 0 = f at hl ⊢
    by_cases h2 : f > b.r.supply
    · rw [decide_eq_true h2, decide_eq_false (show ¬ (0 ≤ f ∧ f ≤ b.r.supply) by omega)]; simp
    · rw [decide_eq_false h2]
      simp only [Bool.false_eq_true, if_false]
      by_cases h3 : 0 ≤ f
      · rw [decide_eq_true (show 0 ≤ f ∧ f ≤ b.r.supply by omega), decide_eq_true (show f ≥ 0 by omega)]
        exact ⟨rfl, fun _ => ⟨by trivial, by omega, by omega, h3, by omega⟩, fun h => by simp at h⟩
      · rw [decide_eq_false (show ¬ (0 ≤ f ∧ f ≤ b.r.supply) by omega), decide_eq_false (show ¬ f ≥ 0 by omega)]
        exact ⟨rfl, fun h => by simp at h, fun _ => by omega⟩

theorem UnOk.sd {b : Brd} {u : Unt} (h : UnOk b u) : u.side = 0 ∨ u.side = 1 := by have := h.side; omega

theorem F_jUnit (b : Brd) (s : Stt) (h : StOk b s) (t : Int) (t0 : 0 ≤ t) (t1 : t < s.un.length) (F : List Int) (hF : okSr b F = true) :
    Fun E0 77 [.agg b.cs, .agg s.cs, vI t, .one (roI F)] [] (.tup [.one (.own 0 (opBs b s (s.un.getD t.toNat Unt.d).side (s.un.getD t.toNat Unt.d).kind).length), .one (.own 1 (splB b s (s.un.getD t.toNat Unt.d).side (s.un.getD t.toNat Unt.d).kind F).length)]) [(0, rwB (opBs b s (s.un.getD t.toNat Unt.d).side (s.un.getD t.toNat Unt.d).kind)), (1, rwI (splB b s (s.un.getD t.toNat Unt.d).side (s.un.getD t.toNat Unt.d).kind F))] [] := by
  have hU := h.un _ (getD_memT (d := Unt.d) t0 t1)
  refine Fun_of_xc k77 rfl rfl (nrC (rwB_no _) (nrC (rwI_no _) nrN)) ?_
  ((conv=>whnf);repeat((first|refine Ct ‹_› ?_|refine Cf ‹_› ?_|refine Ct rfl ?_|refine Cf rfl ?_|refine Bi rfl ?_|refine Bz rfl ?_|refine Lr ?_);conv=>whnf))
  refine Rw_i (rwB []) (rwB_nil _) ?_
  ((conv=>whnf);repeat((first|refine Ct ‹_› ?_|refine Cf ‹_› ?_|refine Ct rfl ?_|refine Cf rfl ?_|refine Bi rfl ?_|refine Bz rfl ?_|refine Lr ?_);conv=>whnf))
  refine Rw_i (rwI []) (rwI_nil _) ?_
  ((conv=>whnf);repeat((first|refine Ct ‹_› ?_|refine Cf ‹_› ?_|refine Ct rfl ?_|refine Cf rfl ?_|refine Bi rfl ?_|refine Bz rfl ?_|refine Lr ?_);conv=>whnf))
  refine Bnd_i (⟨t0, t1⟩) ?_; ((conv=>whnf);repeat((first|refine Ct ‹_› ?_|refine Cf ‹_› ?_|refine Ct rfl ?_|refine Cf rfl ?_|refine Bi rfl ?_|refine Bz rfl ?_|refine Lr ?_);conv=>whnf))
  (refine CallQ_some (F_jOpen b s h _ _ hU.sd hU.kind) ?_ ?_ ?_; rfl; rfl); ((conv=>whnf);repeat((first|refine Ct ‹_› ?_|refine Cf ‹_› ?_|refine Ct rfl ?_|refine Cf rfl ?_|refine Bi rfl ?_|refine Bz rfl ?_|refine Lr ?_);conv=>whnf))
  (refine CallQ_some (F_jFarB b h.gb s _ _ F hF) ?_ ?_ ?_; rfl; rfl); ((conv=>whnf);repeat((first|refine Ct ‹_› ?_|refine Cf ‹_› ?_|refine Ct rfl ?_|refine Cf rfl ?_|refine Bi rfl ?_|refine Bz rfl ?_|refine Lr ?_);conv=>whnf))
  exact ⟨rfl, rfl, rfl⟩

theorem F_jIn (b : Brd) (s : Stt) (h : StOk b s) (t : Int) (t0 : 0 ≤ t) (t1 : t < s.un.length) (F : List Int) (hF : okSr b F = true) :
    Fun E0 49 [.agg b.cs, .agg s.cs, vI t, .one (roI F)] [] (.v (vB (inSu b s (s.un.getD t.toNat Unt.d) F))) [] [] := by
  have hU := h.un _ (getD_memT (d := Unt.d) t0 t1)
  have ha := hU.at'
  refine Fun_of_xc k49 rfl rfl (fun k q h => by cases h) ?_
  ((conv=>whnf);repeat((first|refine Ct ‹_› ?_|refine Cf ‹_› ?_|refine Ct rfl ?_|refine Cf rfl ?_|refine Bi rfl ?_|refine Bz rfl ?_|refine Lr ?_);conv=>whnf))
  refine Bnd_i (⟨t0, t1⟩) ?_; ((conv=>whnf);repeat((first|refine Ct ‹_› ?_|refine Cf ‹_› ?_|refine Ct rfl ?_|refine Cf rfl ?_|refine Bi rfl ?_|refine Bz rfl ?_|refine Lr ?_);conv=>whnf))
  refine Cnd_i (fun g => ?_) (fun g => ?_)
  · ((conv=>whnf);repeat((first|refine Ct ‹_› ?_|refine Cf ‹_› ?_|refine Ct rfl ?_|refine Cf rfl ?_|refine Bi rfl ?_|refine Bz rfl ?_|refine Lr ?_);conv=>whnf))
    rw [inSu, if_pos g]
    exact ⟨rfl, rfl, rfl⟩
  have g0 := of_decide_eq_false g
  have hl := splB_len b s (s.un.getD t.toNat Unt.d).side (s.un.getD t.toNat Unt.d).kind F
  rw [inSu, if_neg (by rw [g]; simp)]
  ((conv=>whnf);repeat((first|refine Ct ‹_› ?_|refine Cf ‹_› ?_|refine Ct rfl ?_|refine Cf rfl ?_|refine Bi rfl ?_|refine Bz rfl ?_|refine Lr ?_);conv=>whnf))
  (refine CallQ_some (F_jUnit b s h t t0 t1 F hF) ?_ ?_ ?_; rfl; rfl); ((conv=>whnf);repeat((first|refine Ct ‹_› ?_|refine Cf ‹_› ?_|refine Ct rfl ?_|refine Cf rfl ?_|refine Bi rfl ?_|refine Bz rfl ?_|refine Lr ?_);conv=>whnf))
  refine Bnd_i (⟨by omega, by omega⟩) ?_; ((conv=>whnf);repeat((first|refine Ct ‹_› ?_|refine Cf ‹_› ?_|refine Ct rfl ?_|refine Cf rfl ?_|refine Bi rfl ?_|refine Bz rfl ?_|refine Lr ?_);conv=>whnf))
  (refine CallQ_some (F_l1In _ _ _) ?_ ?_ ?_; rfl; rfl); ((conv=>whnf);repeat((first|refine Ct ‹_› ?_|refine Cf ‹_› ?_|refine Ct rfl ?_|refine Cf rfl ?_|refine Bi rfl ?_|refine Bz rfl ?_|refine Lr ?_);conv=>whnf))
  exact ⟨rfl, rfl, rfl⟩

theorem F_supplyWay (b : Brd) (s : Stt) (h : StOk b s) (u : Unt) (hU : UnOk b u) (F : List Int) (hF : okSr b F = true) :
    Fun E0 87 [.agg b.cs, .agg u.cs, .one (roB (opBs b s u.side u.kind)), .one (roI F)] [] (.v (vI (wySu b s u F))) [] [] := by
  have ha := hU.at'
  refine Fun_of_xc k87 rfl rfl (fun k q h => by cases h) ?_
  ((conv=>whnf);repeat((first|refine Ct ‹_› ?_|refine Cf ‹_› ?_|refine Ct rfl ?_|refine Cf rfl ?_|refine Bi rfl ?_|refine Bz rfl ?_|refine Lr ?_);conv=>whnf))
  refine Cnd_i (fun g => ?_) (fun g => ?_)
  · ((conv=>whnf);repeat((first|refine Ct ‹_› ?_|refine Cf ‹_› ?_|refine Ct rfl ?_|refine Cf rfl ?_|refine Bi rfl ?_|refine Bz rfl ?_|refine Lr ?_);conv=>whnf))
    rw [wySu, if_pos g]
    exact ⟨rfl, rfl, rfl⟩
  have g0 := of_decide_eq_false g
  have hl := splB_len b s u.side u.kind F
  rw [wySu, if_neg (by rw [g]; simp)]
  ((conv=>whnf);repeat((first|refine Ct ‹_› ?_|refine Cf ‹_› ?_|refine Ct rfl ?_|refine Cf rfl ?_|refine Bi rfl ?_|refine Bz rfl ?_|refine Lr ?_);conv=>whnf))
  (refine CallQ_some (F_spreadB b h.gb s u.side u.kind F hF) ?_ ?_ ?_; rfl; rfl); ((conv=>whnf);repeat((first|refine Ct ‹_› ?_|refine Cf ‹_› ?_|refine Ct rfl ?_|refine Cf rfl ?_|refine Bi rfl ?_|refine Bz rfl ?_|refine Lr ?_);conv=>whnf))
  refine Bnd_i (⟨by omega, by omega⟩) ?_; ((conv=>whnf);repeat((first|refine Ct ‹_› ?_|refine Cf ‹_› ?_|refine Ct rfl ?_|refine Cf rfl ?_|refine Bi rfl ?_|refine Bz rfl ?_|refine Lr ?_);conv=>whnf))
  refine Cnd_i (fun g2 => ?_) (fun g2 => ?_)
  · ((conv=>whnf);repeat((first|refine Ct ‹_› ?_|refine Cf ‹_› ?_|refine Ct rfl ?_|refine Cf rfl ?_|refine Bi rfl ?_|refine Bz rfl ?_|refine Lr ?_);conv=>whnf))
    rw [if_pos g2]
    exact ⟨rfl, rfl, rfl⟩
  · ((conv=>whnf);repeat((first|refine Ct ‹_› ?_|refine Cf ‹_› ?_|refine Ct rfl ?_|refine Cf rfl ?_|refine Bi rfl ?_|refine Bz rfl ?_|refine Lr ?_);conv=>whnf))
    rw [if_neg (by rw [g2]; simp)]
    exact ⟨rfl, rfl, rfl⟩

theorem F_wayOf (b : Brd) (s : Stt) (h : StOk b s) (u : Unt) (hU : UnOk b u) (F : List Int) (hF : okSr b F = true) :
    Fun E0 64 [.agg b.cs, .agg s.cs, .agg u.cs, .one (roI F)] [] (.v (vI (wySu b s u F))) [] [] := by
  refine Fun_of_xc k64 rfl rfl (fun k q h => by cases h) ?_
  ((conv=>whnf);repeat((first|refine Ct ‹_› ?_|refine Cf ‹_› ?_|refine Ct rfl ?_|refine Cf rfl ?_|refine Bi rfl ?_|refine Bz rfl ?_|refine Lr ?_);conv=>whnf))
  (refine CallQ_some (F_openFor b s h u.side u.kind hU.sd hU.kind) ?_ ?_ ?_; rfl; rfl); ((conv=>whnf);repeat((first|refine Ct ‹_› ?_|refine Cf ‹_› ?_|refine Ct rfl ?_|refine Cf rfl ?_|refine Bi rfl ?_|refine Bz rfl ?_|refine Lr ?_);conv=>whnf))
  (refine CallQ_some (F_supplyWay b s h u hU F hF) ?_ ?_ ?_; rfl; rfl); ((conv=>whnf);repeat((first|refine Ct ‹_› ?_|refine Cf ‹_› ?_|refine Ct rfl ?_|refine Cf rfl ?_|refine Bi rfl ?_|refine Bz rfl ?_|refine Lr ?_);conv=>whnf))
  exact ⟨rfl, rfl, rfl⟩

structure SpD (N : Nat) (g : Int → Int → Prop) (op : Int → Bool) (S : Int → Prop) (a : Int) (L B : List Int) (n : Int) : Prop where
  hL : DstS N g op S L
  hB : DstS N g op (fun k => k = a) B
  sym : ∀ j k, g j k → g k j
  gb : ∀ j k, g j k → (0 ≤ j ∧ j < N)
  so : ∀ k, S k → op k = true
  sb : ∀ k, S k → 0 ≤ k ∧ k < N
  ab : 0 ≤ a ∧ a < N
  n0 : 0 ≤ n
  hn : L.getD a.toNat 0 = n
namespace SpD

variable {N : Nat} {g : Int → Int → Prop} {op : Int → Bool} {S : Int → Prop} {a n : Int} {L B : List Int}

end SpD

theorem selU_mem {q : Unt → Bool} {us : List Unt} {n : Nat} {x : Int} (h : x ∈ selU q us n) : 0 ≤ x ∧ x < n := by
  induction n with
  | zero => simp [selU] at h
  | succ n ih =>
    unfold selU at h
    split at h
    · rcases List.mem_append.1 h with h | h
      · have := ih h; omega
      · have : x = n := by simpa using h
        omega
    · have := ih h; omega

def lsU (n : Int) (u : Unt) : Unt := ⟨u.side, u.kind, if max 0 (u.ste - n) = 0 then -1 else u.at', max 0 (u.ste - n)⟩

abbrev lsR (us : List Unt) (x n : Int) : List Unt := us.set x.toNat (lsU n (us.getD x.toNat Unt.d))

def stB (us : List Unt) : Prop := ∀ k : Nat, k < us.length → 0 ≤ (us.getD k Unt.d).ste ∧ (us.getD k Unt.d).ste ≤ 4

theorem stB_of {b : Brd} {s : Stt} (h : StOk b s) : stB s.un := by
  intro k hk
  have hU := h.un _ (getD_memT (d := Unt.d) (i := (k : Int)) (by omega) (by omega))
  rw [show ((k : Int)).toNat = k by omega] at hU
  have h1 := hU.ste
  have h2 := h.gb.knd _ (getD_memT (d := Knd.d) hU.kind.1 hU.kind.2)
  simp only [okKnd, Bool.and_eq_true] at h2
  have h3 := of_decide_eq_true h2.1.2
  omega

theorem stB_ls {us : List Unt} (h : stB us) {x n : Int} (hn : 0 ≤ n) : stB (lsR us x n) := by
  intro k hk
  have hk : k < us.length := by simpa [lsR] using hk
  have h1 := h k hk
  show 0 ≤ ((us.set x.toNat _).getD k Unt.d).ste ∧ _
  rw [List.getD_eq_getElem?_getD, List.getElem?_set]
  by_cases e : x.toNat = k
  · have h2 : x.toNat < us.length := by omega
    rw [if_pos e, if_pos h2]
    rw [e]
    show 0 ≤ max 0 ((us.getD k Unt.d).ste - n) ∧ max 0 ((us.getD k Unt.d).ste - n) ≤ 4
    omega
  · rw [if_neg e, ← List.getD_eq_getElem?_getD]; exact h1

theorem F_sLose (tu we : Int) (N : Nat) (us : List Unt) (x n : Int) (hN : us.length = N) (x0 : 0 ≤ x) (x1 : x < N) (hs : stB us) (n0 : 0 ≤ n ∧ n ≤ 4) (hl : N ≤ 1048576) :
    Fun E0 50 [.agg [cI tu, cI we, .own (P0 + 2) N], vI x, vI n] [(P0 + 2, rwUn N us)] (.tup []) [] [(P0 + 2, rwUn N (lsR us x n))] := by
  have hx : x.toNat < us.length := by omega
  have hst := hs x.toNat hx
  have hls : ∀ v, v = lsU n (us.getD x.toNat Unt.d) → us.set x.toNat v = lsR us x n := fun v e => by rw [e]
  refine Fun_of_xc k50 rfl rfl (nrC (rwUn_no _ _) nrN) ?_
  generalize hu : us.getD x.toNat Unt.d = u at hst hls
  have hu1 : (us.set x.toNat (⟨u.side, u.kind, u.at', max 0 (u.ste - n)⟩ : Unt)).getD x.toNat Unt.d = ⟨u.side, u.kind, u.at', max 0 (u.ste - n)⟩ := set_getD hx
  ((conv=>whnf);repeat((first|refine Ct ‹_› ?_|refine Cf ‹_› ?_|refine Ct rfl ?_|refine Cf rfl ?_|refine Bi rfl ?_|refine Bz rfl ?_|refine Lr ?_);conv=>whnf))
  refine Bnd_i (⟨x0, x1⟩) ?_; ((conv=>whnf);repeat((first|refine Ct ‹_› ?_|refine Cf ‹_› ?_|refine Ct rfl ?_|refine Cf rfl ?_|refine Bi rfl ?_|refine Bz rfl ?_|refine Lr ?_);conv=>whnf))
  (refine CallQ_some (F_l1Most _ _) ?_ ?_ ?_; rfl; rfl); ((conv=>whnf);repeat((first|refine Ct ‹_› ?_|refine Cf ‹_› ?_|refine Ct rfl ?_|refine Cf rfl ?_|refine Bi rfl ?_|refine Bz rfl ?_|refine Lr ?_);conv=>whnf))
  refine Bnd_i (⟨x0, x1⟩) ?_; ((conv=>whnf);repeat((first|refine Ct ‹_› ?_|refine Cf ‹_› ?_|refine Ct rfl ?_|refine Cf rfl ?_|refine Bi rfl ?_|refine Bz rfl ?_|refine Lr ?_);conv=>whnf))
  refine Rw_U u ⟨u.side, u.kind, u.at', max 0 (u.ste - n)⟩ hx hu (lt4 rfl rfl rfl ?_) ?_
  · show cI (max 0 (IntKind.i64.wrap ((us.getD x.toNat Unt.d).ste - n))) = cI (max 0 (u.ste - n))
    rw [hu, wrapI (by omega)]
  ((conv=>whnf);repeat((first|refine Ct ‹_› ?_|refine Cf ‹_› ?_|refine Ct rfl ?_|refine Cf rfl ?_|refine Bi rfl ?_|refine Bz rfl ?_|refine Lr ?_);conv=>whnf))
  refine Bnd_i (⟨x0, x1⟩) ?_; ((conv=>whnf);repeat((first|refine Ct ‹_› ?_|refine Cf ‹_› ?_|refine Ct rfl ?_|refine Cf rfl ?_|refine Bi rfl ?_|refine Bz rfl ?_|refine Lr ?_);conv=>whnf))
  have hc : (((us.set x.toNat (⟨u.side, u.kind, u.at', max 0 (u.ste - n)⟩ : Unt)).getD x.toNat Unt.d).ste == 0) = decide (max 0 (u.ste - n) = 0) := by rw [hu1]; rfl
  refine Cnd_i (fun g => ?_) (fun g => ?_)
  · have g := of_decide_eq_true (hc.symm.trans g)
    ((conv=>whnf);repeat((first|refine Ct ‹_› ?_|refine Cf ‹_› ?_|refine Ct rfl ?_|refine Cf rfl ?_|refine Bi rfl ?_|refine Bz rfl ?_|refine Lr ?_);conv=>whnf))
    refine Bnd_i (⟨x0, x1⟩) ?_; ((conv=>whnf);repeat((first|refine Ct ‹_› ?_|refine Cf ‹_› ?_|refine Ct rfl ?_|refine Cf rfl ?_|refine Bi rfl ?_|refine Bz rfl ?_|refine Lr ?_);conv=>whnf))
    refine Rw_U ⟨u.side, u.kind, u.at', max 0 (u.ste - n)⟩ ⟨u.side, u.kind, -1, max 0 (u.ste - n)⟩ (by simp; exact hx) hu1 (lt4 rfl rfl rfl rfl) ?_
    rw [List.set_set, hls ⟨u.side, u.kind, -1, max 0 (u.ste - n)⟩ (by unfold lsU; rw [if_pos g])]
    ((conv=>whnf);repeat((first|refine Ct ‹_› ?_|refine Cf ‹_› ?_|refine Ct rfl ?_|refine Cf rfl ?_|refine Bi rfl ?_|refine Bz rfl ?_|refine Lr ?_);conv=>whnf))
    exact ⟨rfl, rfl, rfl⟩
  · have g := of_decide_eq_false (hc.symm.trans g)
    ((conv=>whnf);repeat((first|refine Ct ‹_› ?_|refine Cf ‹_› ?_|refine Ct rfl ?_|refine Cf rfl ?_|refine Bi rfl ?_|refine Bz rfl ?_|refine Lr ?_);conv=>whnf))
    rw [hls ⟨u.side, u.kind, u.at', max 0 (u.ste - n)⟩ (by unfold lsU; rw [if_neg g])]
    exact ⟨rfl, rfl, rfl⟩

theorem F_loseSteps (tu we : Int) (N : Nat) (us : List Unt) (x n : Int) (hN : us.length = N) (x0 : 0 ≤ x) (x1 : x < N) (hs : stB us) (n0 : 0 ≤ n ∧ n ≤ 4) (hl : N ≤ 1048576) :
    Fun E0 65 [.agg [cI tu, cI we, .own (P0 + 2) N], vI x, vI n] [(P0 + 2, rwUn N us)] (.tup []) [] [(P0 + 2, rwUn N (lsR us x n))] := by
  have hx : x.toNat < us.length := by omega
  have hst := hs x.toNat hx
  have hls : ∀ v, v = lsU n (us.getD x.toNat Unt.d) → us.set x.toNat v = lsR us x n := fun v e => by rw [e]
  refine Fun_of_xc k65 rfl rfl (nrC (rwUn_no _ _) nrN) ?_
  generalize hu : us.getD x.toNat Unt.d = u at hst hls
  have hu1 : (us.set x.toNat (⟨u.side, u.kind, u.at', max 0 (u.ste - n)⟩ : Unt)).getD x.toNat Unt.d = ⟨u.side, u.kind, u.at', max 0 (u.ste - n)⟩ := set_getD hx
  ((conv=>whnf);repeat((first|refine Ct ‹_› ?_|refine Cf ‹_› ?_|refine Ct rfl ?_|refine Cf rfl ?_|refine Bi rfl ?_|refine Bz rfl ?_|refine Lr ?_);conv=>whnf))
  refine Bnd_i (⟨x0, x1⟩) ?_; ((conv=>whnf);repeat((first|refine Ct ‹_› ?_|refine Cf ‹_› ?_|refine Ct rfl ?_|refine Cf rfl ?_|refine Bi rfl ?_|refine Bz rfl ?_|refine Lr ?_);conv=>whnf))
  refine Rw_U u ⟨u.side, u.kind, u.at', max 0 (u.ste - n)⟩ hx hu (lt4 rfl rfl rfl ?_) ?_
  · show cI (if 0 > IntKind.i64.wrap ((us.getD x.toNat Unt.d).ste - n) then 0 else IntKind.i64.wrap ((us.getD x.toNat Unt.d).ste - n)) = cI (max 0 (u.ste - n))
    rw [hu, wrapI (by omega)]
    congr 1
    split <;> omega
  ((conv=>whnf);repeat((first|refine Ct ‹_› ?_|refine Cf ‹_› ?_|refine Ct rfl ?_|refine Cf rfl ?_|refine Bi rfl ?_|refine Bz rfl ?_|refine Lr ?_);conv=>whnf))
  have hc : (((us.set x.toNat (⟨u.side, u.kind, u.at', max 0 (u.ste - n)⟩ : Unt)).getD x.toNat Unt.d).ste == 0) = decide (max 0 (u.ste - n) = 0) := by rw [hu1]; rfl
  refine Cnd_i (fun g => ?_) (fun g => ?_)
  · have g := of_decide_eq_true (hc.symm.trans g)
    ((conv=>whnf);repeat((first|refine Ct ‹_› ?_|refine Cf ‹_› ?_|refine Ct rfl ?_|refine Cf rfl ?_|refine Bi rfl ?_|refine Bz rfl ?_|refine Lr ?_);conv=>whnf))
    refine Rw_U ⟨u.side, u.kind, u.at', max 0 (u.ste - n)⟩ ⟨u.side, u.kind, -1, max 0 (u.ste - n)⟩ (by simp; exact hx) hu1 (lt4 rfl rfl rfl rfl) ?_
    rw [List.set_set, hls ⟨u.side, u.kind, -1, max 0 (u.ste - n)⟩ (by unfold lsU; rw [if_pos g])]
    ((conv=>whnf);repeat((first|refine Ct ‹_› ?_|refine Cf ‹_› ?_|refine Ct rfl ?_|refine Cf rfl ?_|refine Bi rfl ?_|refine Bz rfl ?_|refine Lr ?_);conv=>whnf))
    exact ⟨rfl, rfl, rfl⟩
  · have g := of_decide_eq_false (hc.symm.trans g)
    ((conv=>whnf);repeat((first|refine Ct ‹_› ?_|refine Cf ‹_› ?_|refine Ct rfl ?_|refine Cf rfl ?_|refine Bi rfl ?_|refine Bz rfl ?_|refine Lr ?_);conv=>whnf))
    rw [hls ⟨u.side, u.kind, u.at', max 0 (u.ste - n)⟩ (by unfold lsU; rw [if_neg g])]
    exact ⟨rfl, rfl, rfl⟩

theorem lsR_len (us : List Unt) (x n : Int) : (lsR us x n).length = us.length := by simp [lsR]

theorem rwUn_eq {n : Nat} {us : List Unt} (hl : us.length = n) : rwUn n us = rwU us := by rw [← hl]

noncomputable def luF (b : Brd) (s : Stt) (F : List Int) (us : List Unt) (x : Int) : List Unt := if inSu b s (s.un.getD x.toNat Unt.d) F = true then us else lsR us x 1

noncomputable def luS (b : Brd) (s : Stt) (side : Int) (F : List Int) : Stt := ⟨s.turn, s.wea, (selU (onS side) s.un s.un.length).foldl (luF b s F) s.un⟩

theorem luF_len (b : Brd) (s : Stt) (F : List Int) (W : List Int) (us : List Unt) : (W.foldl (luF b s F) us).length = us.length := by
  induction W generalizing us with
  | nil => rfl
  | cons x W ih =>
    rw [List.foldl_cons, ih]
    unfold luF
    split
    · rfl
    · exact lsR_len _ _ _

theorem fold_s {α : Type} (f : α → Int → α) (a : α) (W : List Int) (i : Int) (h0 : 0 ≤ i) (h : i < W.length) : (W.take (i + 1).toNat).foldl f a = f ((W.take i.toNat).foldl f a) (W.getD i.toNat 0) := by
  have h : i.toNat < W.length := by omega
  have e : W.take (i + 1).toNat = W.take i.toNat ++ [W.getD i.toNat 0] := by
    rw [show (i + 1).toNat = i.toNat + 1 by omega, List.take_add_one, List.getElem?_eq_getElem h, List.getD_eq_getElem?_getD, List.getElem?_eq_getElem h]; rfl
  rw [e, List.foldl_append]; rfl

theorem F_jLose (b : Brd) (s : Stt) (h : StOk b s) (side : Int) (F : List Int) (hF : okSr b F = true) (hp : 0 < s.un.length) :
    Fun E0 24 [.agg b.cs, .agg s.cs, vI side, .one (roI F)] [] (.v (oS (luS b s side F))) [(2, rwU (luS b s side F).un)] [] := by
  have hlen := h.len
  refine Fun_of_xc k24 rfl rfl (nrC (rwU_no _) nrN) ?_
  ((conv=>whnf);repeat((first|refine Ct ‹_› ?_|refine Cf ‹_› ?_|refine Ct rfl ?_|refine Cf rfl ?_|refine Bi rfl ?_|refine Bz rfl ?_|refine Lr ?_);conv=>whnf))
  (refine CallQ_some (F_sOwn s hp (by omega)) ?_ ?_ ?_; rfl; rfl); ((conv=>whnf);repeat((first|refine Ct ‹_› ?_|refine Cf ‹_› ?_|refine Ct rfl ?_|refine Cf rfl ?_|refine Bi rfl ?_|refine Bz rfl ?_|refine Lr ?_);conv=>whnf))
  (refine CallQ_some (F_sOf s (by omega) side) ?_ ?_ ?_; rfl; rfl); ((conv=>whnf);repeat((first|refine Ct ‹_› ?_|refine Cf ‹_› ?_|refine Ct rfl ?_|refine Cf rfl ?_|refine Bi rfl ?_|refine Bz rfl ?_|refine Lr ?_);conv=>whnf))
  have hm : ∀ x ∈ selU (onS side) s.un s.un.length, 0 ≤ x ∧ x < s.un.length := fun x hx => selU_mem hx
  have hwl := selU_le (onS side) s.un s.un.length
  have hR : luS b s side F = ⟨s.turn, s.wea, (selU (onS side) s.un s.un.length).foldl (luF b s F) s.un⟩ := rfl
  rw [hR]
  generalize selU (onS side) s.un s.un.length = W at hm hwl ⊢
  refine WLoop_v2 ⟨[3, 4, 5, 8, 9, 16, 17, 18], [4, 5, 8, 9], []⟩ (fun (i : Int) (us : List Unt) => hdS 33 [(3, .v (.one (roI F))), (4, .v (.one (.box 4 0))), (5, .v (.one (.box 5 0))), (8, .v (.one (.box 8 0))), (9, .v (.one (.box 9 0))), (16, .v (.one (.own (vkey 16) W.length))), (17, .v (vI W.length)), (18, .v (vI i))] [(4, b.cs), (5, s.cs), (8, [cI 0, cI 0, .ro 4 0 nog]), (9, [cI s.turn, cI s.wea, .own (bkey 9 2) s.un.length])] [(bkey 9 2, rwUn s.un.length us), (vkey 16, rwI W)])
    (fun n i us => 0 ≤ i ∧ i + n = W.length ∧ us = (W.take i.toNat).foldl (luF b s F) s.un ∧ us.length = s.un.length ∧ stB us) W.length 0 s.un rfl ⟨by omega, by omega, rfl, rfl, stB_of h⟩ ?_
  rintro n i us ⟨i1, i2, i3, i4, i5⟩
  ((conv=>whnf);repeat((first|refine Ct ‹_› ?_|refine Cf ‹_› ?_|refine Ct rfl ?_|refine Cf rfl ?_|refine Bi rfl ?_|refine Bz rfl ?_|refine Lr ?_);conv=>whnf))
  refine Cnd_i (fun g => ?_) (fun g => ?_)
  rotate_left
  · have hi := of_decide_eq_false g
    have e1 : us = W.foldl (luF b s F) s.un := by rw [i3, show i.toNat = W.length by omega, List.take_length]
    ((conv=>whnf);repeat((first|refine Ct ‹_› ?_|refine Cf ‹_› ?_|refine Ct rfl ?_|refine Cf rfl ?_|refine Bi rfl ?_|refine Bz rfl ?_|refine Lr ?_);conv=>whnf))
    rw [← e1, rwUn_eq i4]
    show _ ∧ _
    rw [show T.v (oS ⟨s.turn, s.wea, us⟩) = .v (.agg [cI s.turn, cI s.wea, .own 2 s.un.length]) by rw [oS, i4]]
    exact ⟨rfl, rfl, rfl⟩
  have hi := of_decide_eq_true g
  have hx := hm _ (getD_mem i1 hi)
  have hst := fold_s (luF b s F) s.un W i i1 hi
  rw [← i3] at hst
  ((conv=>whnf);repeat((first|refine Ct ‹_› ?_|refine Cf ‹_› ?_|refine Ct rfl ?_|refine Cf rfl ?_|refine Bi rfl ?_|refine Bz rfl ?_|refine Lr ?_);conv=>whnf))
  refine Bnd_i (⟨i1, hi⟩) ?_; ((conv=>whnf);repeat((first|refine Ct ‹_› ?_|refine Cf ‹_› ?_|refine Ct rfl ?_|refine Cf rfl ?_|refine Bi rfl ?_|refine Bz rfl ?_|refine Lr ?_);conv=>whnf))
  generalize W.getD i.toNat 0 = x at hx hst ⊢
  (refine CallQ_some (F_jIn b s h x hx.1 hx.2 F hF) ?_ ?_ ?_; rfl; rfl); ((conv=>whnf);repeat((first|refine Ct ‹_› ?_|refine Cf ‹_› ?_|refine Ct rfl ?_|refine Cf rfl ?_|refine Bi rfl ?_|refine Bz rfl ?_|refine Lr ?_);conv=>whnf))
  refine Cnd_i (fun g => ?_) (fun g => ?_)
  · have e : inSu b s (s.un.getD x.toNat Unt.d) F = false := by rwa [Bool.not_eq_true'] at g
    rw [luF, if_neg (by rw [e]; exact Bool.false_ne_true)] at hst
    ((conv=>whnf);repeat((first|refine Ct ‹_› ?_|refine Cf ‹_› ?_|refine Ct rfl ?_|refine Cf rfl ?_|refine Bi rfl ?_|refine Bz rfl ?_|refine Lr ?_);conv=>whnf))
    (refine CallR_some (F_sLose s.turn s.wea s.un.length us x 1 i4 hx.1 hx.2 i5 ⟨by omega, by omega⟩ (by omega)) (by repeat (first | exact trivial | refine ⟨rfl, rfl, rfl, rfl, ?_⟩)) ?_ ?_ ?_ ?_; rfl; rfl; rfl); ((conv=>whnf);repeat((first|refine Ct ‹_› ?_|refine Cf ‹_› ?_|refine Ct rfl ?_|refine Cf rfl ?_|refine Bi rfl ?_|refine Bz rfl ?_|refine Lr ?_);conv=>whnf))
    refine ⟨n - 1, i + 1, lsR us x 1, ?_, by omega, by omega, by omega, hst.symm, (lsR_len _ _ _).trans i4, stB_ls i5 (by omega)⟩
    rw [wrapI (by omega)]; rfl
  · have e : inSu b s (s.un.getD x.toNat Unt.d) F = true := by rwa [Bool.not_eq_false'] at g
    rw [luF, if_pos e] at hst
    ((conv=>whnf);repeat((first|refine Ct ‹_› ?_|refine Cf ‹_› ?_|refine Ct rfl ?_|refine Cf rfl ?_|refine Bi rfl ?_|refine Bz rfl ?_|refine Lr ?_);conv=>whnf))
    refine ⟨n - 1, i + 1, us, ?_, by omega, by omega, by omega, hst.symm, i4, i5⟩
    rw [wrapI (by omega)]; rfl

theorem F_jLose0 (b : Brd) (t w : Int) (side : Int) (F : List Int) :
    Fun E0 24 [.agg b.cs, nS t w, vI side, .one (roI F)] [] (.v (nS t w)) [] [] := by
  have hS := FunLk (F_sOf ⟨t, w, []⟩ (Nat.zero_le _) side) (args' := [nS t w, vI side]) (And.intro (nil3 t w) (And.intro (Or.inl ⟨rfl, rfl⟩) trivial))
  refine Fun_of_xc k24 rfl rfl (fun k q h => by cases h) ?_
  ((conv=>whnf);repeat((first|refine Ct ‹_› ?_|refine Cf ‹_› ?_|refine Ct rfl ?_|refine Cf rfl ?_|refine Bi rfl ?_|refine Bz rfl ?_|refine Lr ?_);conv=>whnf))
  (refine CallQ_some (F_sOwn0 t w) ?_ ?_ ?_; rfl; rfl); ((conv=>whnf);repeat((first|refine Ct ‹_› ?_|refine Cf ‹_› ?_|refine Ct rfl ?_|refine Cf rfl ?_|refine Bi rfl ?_|refine Bz rfl ?_|refine Lr ?_);conv=>whnf))
  (refine CallQ_some (hS) ?_ ?_ ?_; rfl; rfl); ((conv=>whnf);repeat((first|refine Ct ‹_› ?_|refine Cf ‹_› ?_|refine Ct rfl ?_|refine Cf rfl ?_|refine Bi rfl ?_|refine Bz rfl ?_|refine Lr ?_);conv=>whnf))
  refine WLoop_v ⟨[4, 5, 8, 9, 17, 18], [4, 5, 8, 9], []⟩ (fun (_ : Unit) => hdS 33 [(4, .v (.one (.box 4 0))), (5, .v (.one (.box 5 0))), (8, .v (.one (.box 8 0))), (9, .v (.one (.box 9 0))), (17, .v (vI 0)), (18, .v (vI 0))] [(4, b.cs), (5, [cI t, cI w, .ro 4 0 nog]), (8, [cI 0, cI 0, .ro 4 0 nog]), (9, [cI t, cI w, .ro 4 0 nog])] []) (fun _ _ => True) 0 () rfl trivial ?_
  rintro n _ _
  ((conv=>whnf);repeat((first|refine Ct ‹_› ?_|refine Cf ‹_› ?_|refine Ct rfl ?_|refine Cf rfl ?_|refine Bi rfl ?_|refine Bz rfl ?_|refine Lr ?_);conv=>whnf))
  exact ⟨rfl, rfl, rfl⟩

theorem F_unsupplied (b : Brd) (s : Stt) (h : StOk b s) (side : Int) (F : List Int) (hF : okSr b F = true) (hp : 0 < s.un.length) :
    Fun E0 31 [.agg b.cs, .agg s.cs, vI side, .one (roI F)] [] (.v (oS (luS b s side F))) [(2, rwU (luS b s side F).un)] [] := by
  have hlen := h.len
  refine Fun_of_xc k31 rfl rfl (nrC (rwU_no _) nrN) ?_
  ((conv=>whnf);repeat((first|refine Ct ‹_› ?_|refine Cf ‹_› ?_|refine Ct rfl ?_|refine Cf rfl ?_|refine Bi rfl ?_|refine Bz rfl ?_|refine Lr ?_);conv=>whnf))
  (refine CallQ_some (F_cloneState s hp (by omega)) ?_ ?_ ?_; rfl; rfl); ((conv=>whnf);repeat((first|refine Ct ‹_› ?_|refine Cf ‹_› ?_|refine Ct rfl ?_|refine Cf rfl ?_|refine Bi rfl ?_|refine Bz rfl ?_|refine Lr ?_);conv=>whnf))
  (refine CallQ_some (F_unitsOf s (by omega) side) ?_ ?_ ?_; rfl; rfl); ((conv=>whnf);repeat((first|refine Ct ‹_› ?_|refine Cf ‹_› ?_|refine Ct rfl ?_|refine Cf rfl ?_|refine Bi rfl ?_|refine Bz rfl ?_|refine Lr ?_);conv=>whnf))
  have hm : ∀ x ∈ selU (onS side) s.un s.un.length, 0 ≤ x ∧ x < s.un.length := fun x hx => selU_mem hx
  have hwl := selU_le (onS side) s.un s.un.length
  have hR : luS b s side F = ⟨s.turn, s.wea, (selU (onS side) s.un s.un.length).foldl (luF b s F) s.un⟩ := rfl
  rw [hR]
  generalize selU (onS side) s.un s.un.length = W at hm hwl ⊢
  refine WLoop_v2 ⟨[3, 4, 5, 8, 9, 16, 17, 18], [4, 5, 8, 9], []⟩ (fun (i : Int) (us : List Unt) => hdS 37 [(3, .v (.one (roI F))), (4, .v (.one (.box 4 0))), (5, .v (.one (.box 5 0))), (8, .v (.one (.box 8 0))), (9, .v (.one (.box 9 0))), (16, .v (.one (.own (vkey 16) W.length))), (17, .v (vI W.length)), (18, .v (vI i))] [(4, b.cs), (5, s.cs), (8, [cI 0, cI 0, .ro 4 0 nog]), (9, [cI s.turn, cI s.wea, .own (bkey 9 2) s.un.length])] [(bkey 9 2, rwUn s.un.length us), (vkey 16, rwI W)])
    (fun n i us => 0 ≤ i ∧ i + n = W.length ∧ us = (W.take i.toNat).foldl (luF b s F) s.un ∧ us.length = s.un.length ∧ stB us) W.length 0 s.un rfl ⟨by omega, by omega, rfl, rfl, stB_of h⟩ ?_
  rintro n i us ⟨i1, i2, i3, i4, i5⟩
  ((conv=>whnf);repeat((first|refine Ct ‹_› ?_|refine Cf ‹_› ?_|refine Ct rfl ?_|refine Cf rfl ?_|refine Bi rfl ?_|refine Bz rfl ?_|refine Lr ?_);conv=>whnf))
  refine Cnd_i (fun g => ?_) (fun g => ?_)
  rotate_left
  · have hi := of_decide_eq_false g
    have e1 : us = W.foldl (luF b s F) s.un := by rw [i3, show i.toNat = W.length by omega, List.take_length]
    ((conv=>whnf);repeat((first|refine Ct ‹_› ?_|refine Cf ‹_› ?_|refine Ct rfl ?_|refine Cf rfl ?_|refine Bi rfl ?_|refine Bz rfl ?_|refine Lr ?_);conv=>whnf))
    rw [← e1, rwUn_eq i4]
    show _ ∧ _
    rw [show T.v (oS ⟨s.turn, s.wea, us⟩) = .v (.agg [cI s.turn, cI s.wea, .own 2 s.un.length]) by rw [oS, i4]]
    exact ⟨rfl, rfl, rfl⟩
  have hi := of_decide_eq_true g
  have hx := hm _ (getD_mem i1 hi)
  have hst := fold_s (luF b s F) s.un W i i1 hi
  rw [← i3] at hst
  ((conv=>whnf);repeat((first|refine Ct ‹_› ?_|refine Cf ‹_› ?_|refine Ct rfl ?_|refine Cf rfl ?_|refine Bi rfl ?_|refine Bz rfl ?_|refine Lr ?_);conv=>whnf))
  refine Bnd_i (⟨i1, hi⟩) ?_; ((conv=>whnf);repeat((first|refine Ct ‹_› ?_|refine Cf ‹_› ?_|refine Ct rfl ?_|refine Cf rfl ?_|refine Bi rfl ?_|refine Bz rfl ?_|refine Lr ?_);conv=>whnf))
  generalize W.getD i.toNat 0 = x at hx hst ⊢
  refine Bnd_i (⟨hx.1, hx.2⟩) ?_; ((conv=>whnf);repeat((first|refine Ct ‹_› ?_|refine Cf ‹_› ?_|refine Ct rfl ?_|refine Cf rfl ?_|refine Bi rfl ?_|refine Bz rfl ?_|refine Lr ?_);conv=>whnf))
  have hU := h.un _ (getD_memT (d := Unt.d) hx.1 hx.2)
  have hwy := (wySu_in (s := s) hU F).1
  (refine CallQ_some (F_wayOf b s h (s.un.getD x.toNat Unt.d) hU F hF) ?_ ?_ ?_; rfl; rfl); ((conv=>whnf);repeat((first|refine Ct ‹_› ?_|refine Cf ‹_› ?_|refine Ct rfl ?_|refine Cf rfl ?_|refine Bi rfl ?_|refine Bz rfl ?_|refine Lr ?_);conv=>whnf))
  refine Cnd_i (fun g => ?_) (fun g => ?_)
  · have e : inSu b s (s.un.getD x.toNat Unt.d) F = false := by
      have g := of_decide_eq_true g
      rw [← hwy]; exact decide_eq_false (by omega)
    rw [luF, if_neg (by rw [e]; exact Bool.false_ne_true)] at hst
    ((conv=>whnf);repeat((first|refine Ct ‹_› ?_|refine Cf ‹_› ?_|refine Ct rfl ?_|refine Cf rfl ?_|refine Bi rfl ?_|refine Bz rfl ?_|refine Lr ?_);conv=>whnf))
    (refine CallR_some (F_loseSteps s.turn s.wea s.un.length us x 1 i4 hx.1 hx.2 i5 ⟨by omega, by omega⟩ (by omega)) (by repeat (first | exact trivial | refine ⟨rfl, rfl, rfl, rfl, ?_⟩)) ?_ ?_ ?_ ?_; rfl; rfl; rfl); ((conv=>whnf);repeat((first|refine Ct ‹_› ?_|refine Cf ‹_› ?_|refine Ct rfl ?_|refine Cf rfl ?_|refine Bi rfl ?_|refine Bz rfl ?_|refine Lr ?_);conv=>whnf))
    refine ⟨n - 1, i + 1, lsR us x 1, ?_, by omega, by omega, by omega, hst.symm, (lsR_len _ _ _).trans i4, stB_ls i5 (by omega)⟩
    rw [wrapI (by omega)]; rfl
  · have e : inSu b s (s.un.getD x.toNat Unt.d) F = true := by
      have g := of_decide_eq_false g
      rw [← hwy]; exact decide_eq_true (by omega)
    rw [luF, if_pos e] at hst
    ((conv=>whnf);repeat((first|refine Ct ‹_› ?_|refine Cf ‹_› ?_|refine Ct rfl ?_|refine Cf rfl ?_|refine Bi rfl ?_|refine Bz rfl ?_|refine Lr ?_);conv=>whnf))
    refine ⟨n - 1, i + 1, us, ?_, by omega, by omega, by omega, hst.symm, i4, i5⟩
    rw [wrapI (by omega)]; rfl

theorem F_unsupplied0 (b : Brd) (t w : Int) (side : Int) (F : List Int) :
    Fun E0 31 [.agg b.cs, nS t w, vI side, .one (roI F)] [] (.v (nS t w)) [] [] := by
  have hS := FunLk (F_unitsOf ⟨t, w, []⟩ (Nat.zero_le _) side) (args' := [nS t w, vI side]) (And.intro (nil3 t w) (And.intro (Or.inl ⟨rfl, rfl⟩) trivial))
  refine Fun_of_xc k31 rfl rfl (fun k q h => by cases h) ?_
  ((conv=>whnf);repeat((first|refine Ct ‹_› ?_|refine Cf ‹_› ?_|refine Ct rfl ?_|refine Cf rfl ?_|refine Bi rfl ?_|refine Bz rfl ?_|refine Lr ?_);conv=>whnf))
  (refine CallQ_some (F_cloneState0 t w) ?_ ?_ ?_; rfl; rfl); ((conv=>whnf);repeat((first|refine Ct ‹_› ?_|refine Cf ‹_› ?_|refine Ct rfl ?_|refine Cf rfl ?_|refine Bi rfl ?_|refine Bz rfl ?_|refine Lr ?_);conv=>whnf))
  (refine CallQ_some (hS) ?_ ?_ ?_; rfl; rfl); ((conv=>whnf);repeat((first|refine Ct ‹_› ?_|refine Cf ‹_› ?_|refine Ct rfl ?_|refine Cf rfl ?_|refine Bi rfl ?_|refine Bz rfl ?_|refine Lr ?_);conv=>whnf))
  refine WLoop_v ⟨[4, 5, 8, 9, 17, 18], [4, 5, 8, 9], []⟩ (fun (_ : Unit) => hdS 37 [(4, .v (.one (.box 4 0))), (5, .v (.one (.box 5 0))), (8, .v (.one (.box 8 0))), (9, .v (.one (.box 9 0))), (17, .v (vI 0)), (18, .v (vI 0))] [(4, b.cs), (5, [cI t, cI w, .ro 4 0 nog]), (8, [cI 0, cI 0, .ro 4 0 nog]), (9, [cI t, cI w, .ro 4 0 nog])] []) (fun _ _ => True) 0 () rfl trivial ?_
  rintro n _ _
  ((conv=>whnf);repeat((first|refine Ct ‹_› ?_|refine Cf ‹_› ?_|refine Ct rfl ?_|refine Cf rfl ?_|refine Bi rfl ?_|refine Bz rfl ?_|refine Lr ?_);conv=>whnf))
  exact ⟨rfl, rfl, rfl⟩

theorem F_LUa (b : Brd) (ho : b.Ok) (s : Stt) (hs : s.Ok) (side : Int) (F : List Int) (hF : okL F) (e0 : (okBrd b && okSt b s) = false) : Fun E0 6 [.agg b.cs, .agg s.cs, vI side, .one (roI F)] [] (zR 0 0 false) [] [] := by
  refine Fun_of_xc k6 rfl rfl (fun k q h => by cases h) ?_
  ((conv=>whnf);repeat((first|refine Ct ‹_› ?_|refine Cf ‹_› ?_|refine Ct rfl ?_|refine Cf rfl ?_|refine Bi rfl ?_|refine Bz rfl ?_|refine Lr ?_);conv=>whnf))
  (refine CallQ_some (F_sGood b ho s hs) ?_ ?_ ?_; rfl; rfl); ((conv=>whnf);repeat((first|refine Ct ‹_› ?_|refine Cf ‹_› ?_|refine Ct rfl ?_|refine Cf rfl ?_|refine Bi rfl ?_|refine Bz rfl ?_|refine Lr ?_);conv=>whnf))
  have q0 : (!((okBrd b && okSt b s))) = true := by rw [e0]; rfl
  refine Cnd_t q0 ?_
  ((conv=>whnf);repeat((first|refine Ct ‹_› ?_|refine Cf ‹_› ?_|refine Ct rfl ?_|refine Cf rfl ?_|refine Bi rfl ?_|refine Bz rfl ?_|refine Lr ?_);conv=>whnf))
  exact ⟨rfl, rfl, rfl⟩

theorem F_LUb (b : Brd) (ho : b.Ok) (s : Stt) (hs : s.Ok) (side : Int) (F : List Int) (hF : okL F) (e0 : (okBrd b && okSt b s) = true) (e1 : In side 0 1 = false) : Fun E0 6 [.agg b.cs, .agg s.cs, vI side, .one (roI F)] [] (zR 0 0 false) [] [] := by
  refine Fun_of_xc k6 rfl rfl (fun k q h => by cases h) ?_
  ((conv=>whnf);repeat((first|refine Ct ‹_› ?_|refine Cf ‹_› ?_|refine Ct rfl ?_|refine Cf rfl ?_|refine Bi rfl ?_|refine Bz rfl ?_|refine Lr ?_);conv=>whnf))
  (refine CallQ_some (F_sGood b ho s hs) ?_ ?_ ?_; rfl; rfl); ((conv=>whnf);repeat((first|refine Ct ‹_› ?_|refine Cf ‹_› ?_|refine Ct rfl ?_|refine Cf rfl ?_|refine Bi rfl ?_|refine Bz rfl ?_|refine Lr ?_);conv=>whnf))
  have q0 : (!((okBrd b && okSt b s))) = false := by rw [e0]; rfl
  refine Cnd_f q0 ?_
  ((conv=>whnf);repeat((first|refine Ct ‹_› ?_|refine Cf ‹_› ?_|refine Ct rfl ?_|refine Cf rfl ?_|refine Bi rfl ?_|refine Bz rfl ?_|refine Lr ?_);conv=>whnf))
  (refine CallQ_some (F_l1In _ _ _) ?_ ?_ ?_; rfl; rfl); ((conv=>whnf);repeat((first|refine Ct ‹_› ?_|refine Cf ‹_› ?_|refine Ct rfl ?_|refine Cf rfl ?_|refine Bi rfl ?_|refine Bz rfl ?_|refine Lr ?_);conv=>whnf))
  have q1 : (!(In side 0 1)) = true := by rw [e1]; rfl
  refine Cnd_t q1 ?_
  ((conv=>whnf);repeat((first|refine Ct ‹_› ?_|refine Cf ‹_› ?_|refine Ct rfl ?_|refine Cf rfl ?_|refine Bi rfl ?_|refine Bz rfl ?_|refine Lr ?_);conv=>whnf))
  exact ⟨rfl, rfl, rfl⟩

theorem F_LUc (b : Brd) (ho : b.Ok) (s : Stt) (hs : s.Ok) (side : Int) (F : List Int) (hF : okL F) (e0 : (okBrd b && okSt b s) = true) (e1 : In side 0 1 = true) (e2 : okSr b F = false) : Fun E0 6 [.agg b.cs, .agg s.cs, vI side, .one (roI F)] [] (zR 0 0 false) [] [] := by
  have h := StOk.of ho e0
  refine Fun_of_xc k6 rfl rfl (fun k q h => by cases h) ?_
  ((conv=>whnf);repeat((first|refine Ct ‹_› ?_|refine Cf ‹_› ?_|refine Ct rfl ?_|refine Cf rfl ?_|refine Bi rfl ?_|refine Bz rfl ?_|refine Lr ?_);conv=>whnf))
  (refine CallQ_some (F_sGood b ho s hs) ?_ ?_ ?_; rfl; rfl); ((conv=>whnf);repeat((first|refine Ct ‹_› ?_|refine Cf ‹_› ?_|refine Ct rfl ?_|refine Cf rfl ?_|refine Bi rfl ?_|refine Bz rfl ?_|refine Lr ?_);conv=>whnf))
  have q0 : (!((okBrd b && okSt b s))) = false := by rw [e0]; rfl
  refine Cnd_f q0 ?_
  ((conv=>whnf);repeat((first|refine Ct ‹_› ?_|refine Cf ‹_› ?_|refine Ct rfl ?_|refine Cf rfl ?_|refine Bi rfl ?_|refine Bz rfl ?_|refine Lr ?_);conv=>whnf))
  (refine CallQ_some (F_l1In _ _ _) ?_ ?_ ?_; rfl; rfl); ((conv=>whnf);repeat((first|refine Ct ‹_› ?_|refine Cf ‹_› ?_|refine Ct rfl ?_|refine Cf rfl ?_|refine Bi rfl ?_|refine Bz rfl ?_|refine Lr ?_);conv=>whnf))
  have q1 : (!(In side 0 1)) = false := by rw [e1]; rfl
  refine Cnd_f q1 ?_
  ((conv=>whnf);repeat((first|refine Ct ‹_› ?_|refine Cf ‹_› ?_|refine Ct rfl ?_|refine Cf rfl ?_|refine Bi rfl ?_|refine Bz rfl ?_|refine Lr ?_);conv=>whnf))
  (refine CallQ_some (F_jSources b h.gb F hF) ?_ ?_ ?_; rfl; rfl); ((conv=>whnf);repeat((first|refine Ct ‹_› ?_|refine Cf ‹_› ?_|refine Ct rfl ?_|refine Cf rfl ?_|refine Bi rfl ?_|refine Bz rfl ?_|refine Lr ?_);conv=>whnf))
  have q2 : (!(okSr b F)) = true := by rw [e2]; rfl
  refine Cnd_t q2 ?_
  ((conv=>whnf);repeat((first|refine Ct ‹_› ?_|refine Cf ‹_› ?_|refine Ct rfl ?_|refine Cf rfl ?_|refine Bi rfl ?_|refine Bz rfl ?_|refine Lr ?_);conv=>whnf))
  exact ⟨rfl, rfl, rfl⟩

theorem F_LUd (b : Brd) (ho : b.Ok) (s : Stt) (hs : s.Ok) (side : Int) (F : List Int) (hF : okL F) (e0 : (okBrd b && okSt b s) = true) (e1 : In side 0 1 = true) (e2 : okSr b F = true) (hp : 0 < s.un.length) : Fun E0 6 [.agg b.cs, .agg s.cs, vI side, .one (roI F)] [] (oR (luS b s side F) true) [(2, rwU (luS b s side F).un)] [] := by
  have h := StOk.of ho e0
  refine Fun_of_xc k6 rfl rfl (nrC (rwU_no _) nrN) ?_
  ((conv=>whnf);repeat((first|refine Ct ‹_› ?_|refine Cf ‹_› ?_|refine Ct rfl ?_|refine Cf rfl ?_|refine Bi rfl ?_|refine Bz rfl ?_|refine Lr ?_);conv=>whnf))
  (refine CallQ_some (F_sGood b ho s hs) ?_ ?_ ?_; rfl; rfl); ((conv=>whnf);repeat((first|refine Ct ‹_› ?_|refine Cf ‹_› ?_|refine Ct rfl ?_|refine Cf rfl ?_|refine Bi rfl ?_|refine Bz rfl ?_|refine Lr ?_);conv=>whnf))
  have q0 : (!((okBrd b && okSt b s))) = false := by rw [e0]; rfl
  refine Cnd_f q0 ?_
  ((conv=>whnf);repeat((first|refine Ct ‹_› ?_|refine Cf ‹_› ?_|refine Ct rfl ?_|refine Cf rfl ?_|refine Bi rfl ?_|refine Bz rfl ?_|refine Lr ?_);conv=>whnf))
  (refine CallQ_some (F_l1In _ _ _) ?_ ?_ ?_; rfl; rfl); ((conv=>whnf);repeat((first|refine Ct ‹_› ?_|refine Cf ‹_› ?_|refine Ct rfl ?_|refine Cf rfl ?_|refine Bi rfl ?_|refine Bz rfl ?_|refine Lr ?_);conv=>whnf))
  have q1 : (!(In side 0 1)) = false := by rw [e1]; rfl
  refine Cnd_f q1 ?_
  ((conv=>whnf);repeat((first|refine Ct ‹_› ?_|refine Cf ‹_› ?_|refine Ct rfl ?_|refine Cf rfl ?_|refine Bi rfl ?_|refine Bz rfl ?_|refine Lr ?_);conv=>whnf))
  (refine CallQ_some (F_jSources b h.gb F hF) ?_ ?_ ?_; rfl; rfl); ((conv=>whnf);repeat((first|refine Ct ‹_› ?_|refine Cf ‹_› ?_|refine Ct rfl ?_|refine Cf rfl ?_|refine Bi rfl ?_|refine Bz rfl ?_|refine Lr ?_);conv=>whnf))
  have q2 : (!(okSr b F)) = false := by rw [e2]; rfl
  refine Cnd_f q2 ?_
  ((conv=>whnf);repeat((first|refine Ct ‹_› ?_|refine Cf ‹_› ?_|refine Ct rfl ?_|refine Cf rfl ?_|refine Bi rfl ?_|refine Bz rfl ?_|refine Lr ?_);conv=>whnf))
  (refine CallQ_some (F_jLose b s h side F e2 hp) ?_ ?_ ?_; rfl; rfl); ((conv=>whnf);repeat((first|refine Ct ‹_› ?_|refine Cf ‹_› ?_|refine Ct rfl ?_|refine Cf rfl ?_|refine Bi rfl ?_|refine Bz rfl ?_|refine Lr ?_);conv=>whnf))
  exact ⟨rfl, rfl, rfl⟩

theorem F_LUe (b : Brd) (ho : b.Ok) (t w : Int) (hs : (⟨t, w, []⟩ : Stt).Ok) (side : Int) (F : List Int) (hF : okL F) (e0 : (okBrd b && okSt b ⟨t, w, []⟩) = true) (e1 : In side 0 1 = true) (e2 : okSr b F = true) : Fun E0 6 [.agg b.cs, .agg (Stt.cs ⟨t, w, []⟩), vI side, .one (roI F)] [] (zR t w true) [] [] := by
  have h := StOk.of ho e0
  refine FunLk (args := [.agg b.cs, nS t w, vI side, .one (roI F)]) ?_ (And.intro (lkA _ rfl) (And.intro lkS (And.intro (Or.inl ⟨rfl, rfl⟩) (And.intro (Or.inl ⟨rfl, rfl⟩) trivial))))
  have hG := FunLk (F_sGood b ho ⟨t, w, []⟩ hs) (args' := [.agg b.cs, nS t w]) (And.intro (lkA _ rfl) (And.intro (nil3 t w) trivial))
  refine Fun_of_xc k6 rfl rfl (fun k q h => by cases h) ?_
  ((conv=>whnf);repeat((first|refine Ct ‹_› ?_|refine Cf ‹_› ?_|refine Ct rfl ?_|refine Cf rfl ?_|refine Bi rfl ?_|refine Bz rfl ?_|refine Lr ?_);conv=>whnf))
  (refine CallQ_some (hG) ?_ ?_ ?_; rfl; rfl); ((conv=>whnf);repeat((first|refine Ct ‹_› ?_|refine Cf ‹_› ?_|refine Ct rfl ?_|refine Cf rfl ?_|refine Bi rfl ?_|refine Bz rfl ?_|refine Lr ?_);conv=>whnf))
  have q0 : (!((okBrd b && okSt b ⟨t, w, []⟩))) = false := by rw [e0]; rfl
  refine Cnd_f q0 ?_
  ((conv=>whnf);repeat((first|refine Ct ‹_› ?_|refine Cf ‹_› ?_|refine Ct rfl ?_|refine Cf rfl ?_|refine Bi rfl ?_|refine Bz rfl ?_|refine Lr ?_);conv=>whnf))
  (refine CallQ_some (F_l1In _ _ _) ?_ ?_ ?_; rfl; rfl); ((conv=>whnf);repeat((first|refine Ct ‹_› ?_|refine Cf ‹_› ?_|refine Ct rfl ?_|refine Cf rfl ?_|refine Bi rfl ?_|refine Bz rfl ?_|refine Lr ?_);conv=>whnf))
  have q1 : (!(In side 0 1)) = false := by rw [e1]; rfl
  refine Cnd_f q1 ?_
  ((conv=>whnf);repeat((first|refine Ct ‹_› ?_|refine Cf ‹_› ?_|refine Ct rfl ?_|refine Cf rfl ?_|refine Bi rfl ?_|refine Bz rfl ?_|refine Lr ?_);conv=>whnf))
  (refine CallQ_some (F_jSources b h.gb F hF) ?_ ?_ ?_; rfl; rfl); ((conv=>whnf);repeat((first|refine Ct ‹_› ?_|refine Cf ‹_› ?_|refine Ct rfl ?_|refine Cf rfl ?_|refine Bi rfl ?_|refine Bz rfl ?_|refine Lr ?_);conv=>whnf))
  have q2 : (!(okSr b F)) = false := by rw [e2]; rfl
  refine Cnd_f q2 ?_
  ((conv=>whnf);repeat((first|refine Ct ‹_› ?_|refine Cf ‹_› ?_|refine Ct rfl ?_|refine Cf rfl ?_|refine Bi rfl ?_|refine Bz rfl ?_|refine Lr ?_);conv=>whnf))
  (refine CallQ_some (F_jLose0 b t w side F) ?_ ?_ ?_; rfl; rfl); ((conv=>whnf);repeat((first|refine Ct ‹_› ?_|refine Cf ‹_› ?_|refine Ct rfl ?_|refine Cf rfl ?_|refine Bi rfl ?_|refine Bz rfl ?_|refine Lr ?_);conv=>whnf))
  exact ⟨rfl, rfl, rfl⟩

theorem F_LUaI (b : Brd) (ho : b.Ok) (s : Stt) (hs : s.Ok) (side : Int) (F : List Int) (hF : okL F) (e0 : (okBrd b && okSt b s) = false) : Fun E0 10 [.agg b.cs, .agg s.cs, vI side, .one (roI F)] [] (zR 0 0 false) [] [] := by
  refine Fun_of_xc k10 rfl rfl (fun k q h => by cases h) ?_
  ((conv=>whnf);repeat((first|refine Ct ‹_› ?_|refine Cf ‹_› ?_|refine Ct rfl ?_|refine Cf rfl ?_|refine Bi rfl ?_|refine Bz rfl ?_|refine Lr ?_);conv=>whnf))
  (refine CallQ_some (F_fits b ho s hs) ?_ ?_ ?_; rfl; rfl); ((conv=>whnf);repeat((first|refine Ct ‹_› ?_|refine Cf ‹_› ?_|refine Ct rfl ?_|refine Cf rfl ?_|refine Bi rfl ?_|refine Bz rfl ?_|refine Lr ?_);conv=>whnf))
  have q0 : (!((okBrd b && okSt b s))) = true := by rw [e0]; rfl
  refine Cnd_t q0 ?_
  ((conv=>whnf);repeat((first|refine Ct ‹_› ?_|refine Cf ‹_› ?_|refine Ct rfl ?_|refine Cf rfl ?_|refine Bi rfl ?_|refine Bz rfl ?_|refine Lr ?_);conv=>whnf))
  exact ⟨rfl, rfl, rfl⟩

theorem F_LUbI (b : Brd) (ho : b.Ok) (s : Stt) (hs : s.Ok) (side : Int) (F : List Int) (hF : okL F) (e0 : (okBrd b && okSt b s) = true) (e1 : In side 0 1 = false) : Fun E0 10 [.agg b.cs, .agg s.cs, vI side, .one (roI F)] [] (zR 0 0 false) [] [] := by
  refine Fun_of_xc k10 rfl rfl (fun k q h => by cases h) ?_
  ((conv=>whnf);repeat((first|refine Ct ‹_› ?_|refine Cf ‹_› ?_|refine Ct rfl ?_|refine Cf rfl ?_|refine Bi rfl ?_|refine Bz rfl ?_|refine Lr ?_);conv=>whnf))
  (refine CallQ_some (F_fits b ho s hs) ?_ ?_ ?_; rfl; rfl); ((conv=>whnf);repeat((first|refine Ct ‹_› ?_|refine Cf ‹_› ?_|refine Ct rfl ?_|refine Cf rfl ?_|refine Bi rfl ?_|refine Bz rfl ?_|refine Lr ?_);conv=>whnf))
  have q0 : (!((okBrd b && okSt b s))) = false := by rw [e0]; rfl
  refine Cnd_f q0 ?_
  ((conv=>whnf);repeat((first|refine Ct ‹_› ?_|refine Cf ‹_› ?_|refine Ct rfl ?_|refine Cf rfl ?_|refine Bi rfl ?_|refine Bz rfl ?_|refine Lr ?_);conv=>whnf))
  (refine CallQ_some (F_isSide _) ?_ ?_ ?_; rfl; rfl); ((conv=>whnf);repeat((first|refine Ct ‹_› ?_|refine Cf ‹_› ?_|refine Ct rfl ?_|refine Cf rfl ?_|refine Bi rfl ?_|refine Bz rfl ?_|refine Lr ?_);conv=>whnf))
  have q1 : (!(In side 0 1)) = true := by rw [e1]; rfl
  refine Cnd_t q1 ?_
  ((conv=>whnf);repeat((first|refine Ct ‹_› ?_|refine Cf ‹_› ?_|refine Ct rfl ?_|refine Cf rfl ?_|refine Bi rfl ?_|refine Bz rfl ?_|refine Lr ?_);conv=>whnf))
  exact ⟨rfl, rfl, rfl⟩

theorem F_LUcI (b : Brd) (ho : b.Ok) (s : Stt) (hs : s.Ok) (side : Int) (F : List Int) (hF : okL F) (e0 : (okBrd b && okSt b s) = true) (e1 : In side 0 1 = true) (e2 : okSr b F = false) : Fun E0 10 [.agg b.cs, .agg s.cs, vI side, .one (roI F)] [] (zR 0 0 false) [] [] := by
  have h := StOk.of ho e0
  refine Fun_of_xc k10 rfl rfl (fun k q h => by cases h) ?_
  ((conv=>whnf);repeat((first|refine Ct ‹_› ?_|refine Cf ‹_› ?_|refine Ct rfl ?_|refine Cf rfl ?_|refine Bi rfl ?_|refine Bz rfl ?_|refine Lr ?_);conv=>whnf))
  (refine CallQ_some (F_fits b ho s hs) ?_ ?_ ?_; rfl; rfl); ((conv=>whnf);repeat((first|refine Ct ‹_› ?_|refine Cf ‹_› ?_|refine Ct rfl ?_|refine Cf rfl ?_|refine Bi rfl ?_|refine Bz rfl ?_|refine Lr ?_);conv=>whnf))
  have q0 : (!((okBrd b && okSt b s))) = false := by rw [e0]; rfl
  refine Cnd_f q0 ?_
  ((conv=>whnf);repeat((first|refine Ct ‹_› ?_|refine Cf ‹_› ?_|refine Ct rfl ?_|refine Cf rfl ?_|refine Bi rfl ?_|refine Bz rfl ?_|refine Lr ?_);conv=>whnf))
  (refine CallQ_some (F_isSide _) ?_ ?_ ?_; rfl; rfl); ((conv=>whnf);repeat((first|refine Ct ‹_› ?_|refine Cf ‹_› ?_|refine Ct rfl ?_|refine Cf rfl ?_|refine Bi rfl ?_|refine Bz rfl ?_|refine Lr ?_);conv=>whnf))
  have q1 : (!(In side 0 1)) = false := by rw [e1]; rfl
  refine Cnd_f q1 ?_
  ((conv=>whnf);repeat((first|refine Ct ‹_› ?_|refine Cf ‹_› ?_|refine Ct rfl ?_|refine Cf rfl ?_|refine Bi rfl ?_|refine Bz rfl ?_|refine Lr ?_);conv=>whnf))
  (refine CallQ_some (F_areSources b h.gb F hF) ?_ ?_ ?_; rfl; rfl); ((conv=>whnf);repeat((first|refine Ct ‹_› ?_|refine Cf ‹_› ?_|refine Ct rfl ?_|refine Cf rfl ?_|refine Bi rfl ?_|refine Bz rfl ?_|refine Lr ?_);conv=>whnf))
  have q2 : (!(okSr b F)) = true := by rw [e2]; rfl
  refine Cnd_t q2 ?_
  ((conv=>whnf);repeat((first|refine Ct ‹_› ?_|refine Cf ‹_› ?_|refine Ct rfl ?_|refine Cf rfl ?_|refine Bi rfl ?_|refine Bz rfl ?_|refine Lr ?_);conv=>whnf))
  exact ⟨rfl, rfl, rfl⟩

theorem F_LUdI (b : Brd) (ho : b.Ok) (s : Stt) (hs : s.Ok) (side : Int) (F : List Int) (hF : okL F) (e0 : (okBrd b && okSt b s) = true) (e1 : In side 0 1 = true) (e2 : okSr b F = true) (hp : 0 < s.un.length) : Fun E0 10 [.agg b.cs, .agg s.cs, vI side, .one (roI F)] [] (oR (luS b s side F) true) [(2, rwU (luS b s side F).un)] [] := by
  have h := StOk.of ho e0
  refine Fun_of_xc k10 rfl rfl (nrC (rwU_no _) nrN) ?_
  ((conv=>whnf);repeat((first|refine Ct ‹_› ?_|refine Cf ‹_› ?_|refine Ct rfl ?_|refine Cf rfl ?_|refine Bi rfl ?_|refine Bz rfl ?_|refine Lr ?_);conv=>whnf))
  (refine CallQ_some (F_fits b ho s hs) ?_ ?_ ?_; rfl; rfl); ((conv=>whnf);repeat((first|refine Ct ‹_› ?_|refine Cf ‹_› ?_|refine Ct rfl ?_|refine Cf rfl ?_|refine Bi rfl ?_|refine Bz rfl ?_|refine Lr ?_);conv=>whnf))
  have q0 : (!((okBrd b && okSt b s))) = false := by rw [e0]; rfl
  refine Cnd_f q0 ?_
  ((conv=>whnf);repeat((first|refine Ct ‹_› ?_|refine Cf ‹_› ?_|refine Ct rfl ?_|refine Cf rfl ?_|refine Bi rfl ?_|refine Bz rfl ?_|refine Lr ?_);conv=>whnf))
  (refine CallQ_some (F_isSide _) ?_ ?_ ?_; rfl; rfl); ((conv=>whnf);repeat((first|refine Ct ‹_› ?_|refine Cf ‹_› ?_|refine Ct rfl ?_|refine Cf rfl ?_|refine Bi rfl ?_|refine Bz rfl ?_|refine Lr ?_);conv=>whnf))
  have q1 : (!(In side 0 1)) = false := by rw [e1]; rfl
  refine Cnd_f q1 ?_
  ((conv=>whnf);repeat((first|refine Ct ‹_› ?_|refine Cf ‹_› ?_|refine Ct rfl ?_|refine Cf rfl ?_|refine Bi rfl ?_|refine Bz rfl ?_|refine Lr ?_);conv=>whnf))
  (refine CallQ_some (F_areSources b h.gb F hF) ?_ ?_ ?_; rfl; rfl); ((conv=>whnf);repeat((first|refine Ct ‹_› ?_|refine Cf ‹_› ?_|refine Ct rfl ?_|refine Cf rfl ?_|refine Bi rfl ?_|refine Bz rfl ?_|refine Lr ?_);conv=>whnf))
  have q2 : (!(okSr b F)) = false := by rw [e2]; rfl
  refine Cnd_f q2 ?_
  ((conv=>whnf);repeat((first|refine Ct ‹_› ?_|refine Cf ‹_› ?_|refine Ct rfl ?_|refine Cf rfl ?_|refine Bi rfl ?_|refine Bz rfl ?_|refine Lr ?_);conv=>whnf))
  (refine CallQ_some (F_unsupplied b s h side F e2 hp) ?_ ?_ ?_; rfl; rfl); ((conv=>whnf);repeat((first|refine Ct ‹_› ?_|refine Cf ‹_› ?_|refine Ct rfl ?_|refine Cf rfl ?_|refine Bi rfl ?_|refine Bz rfl ?_|refine Lr ?_);conv=>whnf))
  exact ⟨rfl, rfl, rfl⟩

theorem F_LUeI (b : Brd) (ho : b.Ok) (t w : Int) (hs : (⟨t, w, []⟩ : Stt).Ok) (side : Int) (F : List Int) (hF : okL F) (e0 : (okBrd b && okSt b ⟨t, w, []⟩) = true) (e1 : In side 0 1 = true) (e2 : okSr b F = true) : Fun E0 10 [.agg b.cs, .agg (Stt.cs ⟨t, w, []⟩), vI side, .one (roI F)] [] (zR t w true) [] [] := by
  have h := StOk.of ho e0
  refine FunLk (args := [.agg b.cs, nS t w, vI side, .one (roI F)]) ?_ (And.intro (lkA _ rfl) (And.intro lkS (And.intro (Or.inl ⟨rfl, rfl⟩) (And.intro (Or.inl ⟨rfl, rfl⟩) trivial))))
  have hG := FunLk (F_fits b ho ⟨t, w, []⟩ hs) (args' := [.agg b.cs, nS t w]) (And.intro (lkA _ rfl) (And.intro (nil3 t w) trivial))
  refine Fun_of_xc k10 rfl rfl (fun k q h => by cases h) ?_
  ((conv=>whnf);repeat((first|refine Ct ‹_› ?_|refine Cf ‹_› ?_|refine Ct rfl ?_|refine Cf rfl ?_|refine Bi rfl ?_|refine Bz rfl ?_|refine Lr ?_);conv=>whnf))
  (refine CallQ_some (hG) ?_ ?_ ?_; rfl; rfl); ((conv=>whnf);repeat((first|refine Ct ‹_› ?_|refine Cf ‹_› ?_|refine Ct rfl ?_|refine Cf rfl ?_|refine Bi rfl ?_|refine Bz rfl ?_|refine Lr ?_);conv=>whnf))
  have q0 : (!((okBrd b && okSt b ⟨t, w, []⟩))) = false := by rw [e0]; rfl
  refine Cnd_f q0 ?_
  ((conv=>whnf);repeat((first|refine Ct ‹_› ?_|refine Cf ‹_› ?_|refine Ct rfl ?_|refine Cf rfl ?_|refine Bi rfl ?_|refine Bz rfl ?_|refine Lr ?_);conv=>whnf))
  (refine CallQ_some (F_isSide _) ?_ ?_ ?_; rfl; rfl); ((conv=>whnf);repeat((first|refine Ct ‹_› ?_|refine Cf ‹_› ?_|refine Ct rfl ?_|refine Cf rfl ?_|refine Bi rfl ?_|refine Bz rfl ?_|refine Lr ?_);conv=>whnf))
  have q1 : (!(In side 0 1)) = false := by rw [e1]; rfl
  refine Cnd_f q1 ?_
  ((conv=>whnf);repeat((first|refine Ct ‹_› ?_|refine Cf ‹_› ?_|refine Ct rfl ?_|refine Cf rfl ?_|refine Bi rfl ?_|refine Bz rfl ?_|refine Lr ?_);conv=>whnf))
  (refine CallQ_some (F_areSources b h.gb F hF) ?_ ?_ ?_; rfl; rfl); ((conv=>whnf);repeat((first|refine Ct ‹_› ?_|refine Cf ‹_› ?_|refine Ct rfl ?_|refine Cf rfl ?_|refine Bi rfl ?_|refine Bz rfl ?_|refine Lr ?_);conv=>whnf))
  have q2 : (!(okSr b F)) = false := by rw [e2]; rfl
  refine Cnd_f q2 ?_
  ((conv=>whnf);repeat((first|refine Ct ‹_› ?_|refine Cf ‹_› ?_|refine Ct rfl ?_|refine Cf rfl ?_|refine Bi rfl ?_|refine Bz rfl ?_|refine Lr ?_);conv=>whnf))
  (refine CallQ_some (F_unsupplied0 b t w side F) ?_ ?_ ?_; rfl; rfl); ((conv=>whnf);repeat((first|refine Ct ‹_› ?_|refine Cf ‹_› ?_|refine Ct rfl ?_|refine Cf rfl ?_|refine Bi rfl ?_|refine Bz rfl ?_|refine Lr ?_);conv=>whnf))
  exact ⟨rfl, rfl, rfl⟩

theorem LoseUnsupplied_both (b : Brd) (ho : b.Ok) (s : Stt) (hs : s.Ok) (side : Int) (F : List Int) (hF : okL F) : (∃ t w ok, Fun E0 6 [.agg b.cs, .agg s.cs, vI side, .one (roI F)] [] (zR t w ok) [] [] ∧ Fun E0 10 [.agg b.cs, .agg s.cs, vI side, .one (roI F)] [] (zR t w ok) [] []) ∨
    (∃ r ok, r.Sm ∧ Fun E0 6 [.agg b.cs, .agg s.cs, vI side, .one (roI F)] [] (oR r ok) [(2, rwU r.un)] [] ∧ Fun E0 10 [.agg b.cs, .agg s.cs, vI side, .one (roI F)] [] (oR r ok) [(2, rwU r.un)] []) := by
  cases e0 : (okBrd b && okSt b s) with
  | false => exact .inl ⟨0, 0, false, F_LUa b ho s hs side F hF e0, F_LUaI b ho s hs side F hF e0⟩
  | true =>
  cases e1 : In side 0 1 with
  | false => exact .inl ⟨0, 0, false, F_LUb b ho s hs side F hF e0 e1, F_LUbI b ho s hs side F hF e0 e1⟩
  | true =>
  cases e2 : okSr b F with
  | false => exact .inl ⟨0, 0, false, F_LUc b ho s hs side F hF e0 e1 e2, F_LUcI b ho s hs side F hF e0 e1 e2⟩
  | true =>
    rcases un_cases s with e | e
    · rw [e] at hs e0 ⊢
      exact .inl ⟨_, _, true, F_LUe b ho _ _ hs side F hF e0 e1 e2, F_LUeI b ho _ _ hs side F hF e0 e1 e2⟩
    · exact .inr ⟨luS b s side F, true, ⟨by have := (StOk.of ho e0).len; show ((selU (onS side) s.un s.un.length).foldl (luF b s F) s.un).length ≤ _; rw [luF_len]; omega⟩, F_LUd b ho s hs side F hF e0 e1 e2 e, F_LUdI b ho s hs side F hF e0 e1 e2 e⟩

theorem F_FnExactLoseUnsupplied (x0 : Brd) (x1 : Stt) (x2 : Int) (x3 : List Int) (o0 : x0.Ok) (o1 : x1.Ok) (o2 : i64 x2) (o3 : okL x3) :
    Fun E0 3 [.agg x0.cs, .agg x1.cs, vI x2, .one (roI x3)] [] (.v (vB true)) [] [] := by
  rcases LoseUnsupplied_both x0 o0 x1 o1 x2 x3 o3 with ⟨t0, w0, r1, hS, hI⟩ | ⟨r0, r1, hr0, hS, hI⟩
  · refine Fun_of_xc k3 rfl rfl (fun k q h => by cases h) ?_
    ((conv=>whnf);repeat((first|refine Ct ‹_› ?_|refine Cf ‹_› ?_|refine Ct rfl ?_|refine Cf rfl ?_|refine Bi rfl ?_|refine Bz rfl ?_|refine Lr ?_);conv=>whnf))
    refine Cnd_i (fun g => ?_) (fun g => ?_)
    · ((conv=>whnf);repeat((first|refine Ct ‹_› ?_|refine Cf ‹_› ?_|refine Ct rfl ?_|refine Cf rfl ?_|refine Bi rfl ?_|refine Bz rfl ?_|refine Lr ?_);conv=>whnf))
      exact ⟨rfl, rfl, rfl⟩
    have l3 : x3.length ≤ 1048576 := by have := of_decide_eq_false g; omega
    ((conv=>whnf);repeat((first|refine Ct ‹_› ?_|refine Cf ‹_› ?_|refine Ct rfl ?_|refine Cf rfl ?_|refine Bi rfl ?_|refine Bz rfl ?_|refine Lr ?_);conv=>whnf))
    (refine CallQ_some (F_szBoard x0 o0 1048576 (by omega) (by omega)) ?_ ?_ ?_; rfl; rfl); ((conv=>whnf);repeat((first|refine Ct ‹_› ?_|refine Cf ‹_› ?_|refine Ct rfl ?_|refine Cf rfl ?_|refine Bi rfl ?_|refine Bz rfl ?_|refine Lr ?_);conv=>whnf))
    refine Cnd_i (fun g => ?_) (fun g => ?_)
    · ((conv=>whnf);repeat((first|refine Ct ‹_› ?_|refine Cf ‹_› ?_|refine Ct rfl ?_|refine Cf rfl ?_|refine Bi rfl ?_|refine Bz rfl ?_|refine Lr ?_);conv=>whnf))
      exact ⟨rfl, rfl, rfl⟩
    have sm0 := szB_sm (b := x0) (x := 1048576) (by omega) (by omega) (of_decide_eq_false g)
    have s0 := sm0.1
    have sb0 := sm0.2
    have sc0 := of_decide_eq_false g
    ((conv=>whnf);repeat((first|refine Ct ‹_› ?_|refine Cf ‹_› ?_|refine Ct rfl ?_|refine Cf rfl ?_|refine Bi rfl ?_|refine Bz rfl ?_|refine Lr ?_);conv=>whnf))
    (refine CallQ_some (F_szState x1 o1 (szB x0 1048576) (by omega) (by omega)) ?_ ?_ ?_; rfl; rfl); ((conv=>whnf);repeat((first|refine Ct ‹_› ?_|refine Cf ‹_› ?_|refine Ct rfl ?_|refine Cf rfl ?_|refine Bi rfl ?_|refine Bz rfl ?_|refine Lr ?_);conv=>whnf))
    refine Cnd_i (fun g => ?_) (fun g => ?_)
    · ((conv=>whnf);repeat((first|refine Ct ‹_› ?_|refine Cf ‹_› ?_|refine Ct rfl ?_|refine Cf rfl ?_|refine Bi rfl ?_|refine Bz rfl ?_|refine Lr ?_);conv=>whnf))
      exact ⟨rfl, rfl, rfl⟩
    have sm1 := szSt_sm (s := x1) (x := szB x0 1048576) (by omega) (by omega) (of_decide_eq_false g)
    have s1 := sm1.1
    have sb1 := sm1.2
    have sc1 := of_decide_eq_false g
    have u1 := s1.un
    ((conv=>whnf);repeat((first|refine Ct ‹_› ?_|refine Cf ‹_› ?_|refine Ct rfl ?_|refine Cf rfl ?_|refine Bi rfl ?_|refine Bz rfl ?_|refine Lr ?_);conv=>whnf))
    (refine CallQ_some (F_toBoard x0 s0) ?_ ?_ ?_; rfl; rfl); ((conv=>whnf);repeat((first|refine Ct ‹_› ?_|refine Cf ‹_› ?_|refine Ct rfl ?_|refine Cf rfl ?_|refine Bi rfl ?_|refine Bz rfl ?_|refine Lr ?_);conv=>whnf))
    (refine CallQ_some (F_toState x1 s1) ?_ ?_ ?_; rfl; rfl); ((conv=>whnf);repeat((first|refine Ct ‹_› ?_|refine Cf ‹_› ?_|refine Ct rfl ?_|refine Cf rfl ?_|refine Bi rfl ?_|refine Bz rfl ?_|refine Lr ?_);conv=>whnf))
    (refine CallQ_some (F_toIntS x3 l3) ?_ ?_ ?_; rfl; rfl); ((conv=>whnf);repeat((first|refine Ct ‹_› ?_|refine Cf ‹_› ?_|refine Ct rfl ?_|refine Cf rfl ?_|refine Bi rfl ?_|refine Bz rfl ?_|refine Lr ?_);conv=>whnf))
    refine CallQ_eq (snapBS x0 x1 _) ?_
    (refine CallQ_some (hS) ?_ ?_ ?_; rfl; rfl); ((conv=>whnf);repeat((first|refine Ct ‹_› ?_|refine Cf ‹_› ?_|refine Ct rfl ?_|refine Cf rfl ?_|refine Bi rfl ?_|refine Bz rfl ?_|refine Lr ?_);conv=>whnf))
    (refine CallQ_some (F_toBoard x0 s0) ?_ ?_ ?_; rfl; rfl); ((conv=>whnf);repeat((first|refine Ct ‹_› ?_|refine Cf ‹_› ?_|refine Ct rfl ?_|refine Cf rfl ?_|refine Bi rfl ?_|refine Bz rfl ?_|refine Lr ?_);conv=>whnf))
    (refine CallQ_some (F_toState x1 s1) ?_ ?_ ?_; rfl; rfl); ((conv=>whnf);repeat((first|refine Ct ‹_› ?_|refine Cf ‹_› ?_|refine Ct rfl ?_|refine Cf rfl ?_|refine Bi rfl ?_|refine Bz rfl ?_|refine Lr ?_);conv=>whnf))
    (refine CallQ_some (F_toIntS x3 l3) ?_ ?_ ?_; rfl; rfl); ((conv=>whnf);repeat((first|refine Ct ‹_› ?_|refine Cf ‹_› ?_|refine Ct rfl ?_|refine Cf rfl ?_|refine Bi rfl ?_|refine Bz rfl ?_|refine Lr ?_);conv=>whnf))
    refine CallQ_eq (snapBS x0 x1 _) ?_
    (refine CallQ_some (hI) ?_ ?_ ?_; rfl; rfl); ((conv=>whnf);repeat((first|refine Ct ‹_› ?_|refine Cf ‹_› ?_|refine Ct rfl ?_|refine Cf rfl ?_|refine Bi rfl ?_|refine Bz rfl ?_|refine Lr ?_);conv=>whnf))
    (refine CallQ_some (F_eqState0 t0 w0) ?_ ?_ ?_; rfl; rfl); ((conv=>whnf);repeat((first|refine Ct ‹_› ?_|refine Cf ‹_› ?_|refine Ct rfl ?_|refine Cf rfl ?_|refine Bi rfl ?_|refine Bz rfl ?_|refine Lr ?_);conv=>whnf))
    repeat (refine Cnd_f (by simp) ?_; ((conv=>whnf);repeat((first|refine Ct ‹_› ?_|refine Cf ‹_› ?_|refine Ct rfl ?_|refine Cf rfl ?_|refine Bi rfl ?_|refine Bz rfl ?_|refine Lr ?_);conv=>whnf)))
    repeat (refine Cnd_f (by simp) ?_; ((conv=>whnf);repeat((first|refine Ct ‹_› ?_|refine Cf ‹_› ?_|refine Ct rfl ?_|refine Cf rfl ?_|refine Bi rfl ?_|refine Bz rfl ?_|refine Lr ?_);conv=>whnf)))
    (refine CallQ_some (F_toBoard x0 s0) ?_ ?_ ?_; rfl; rfl); ((conv=>whnf);repeat((first|refine Ct ‹_› ?_|refine Cf ‹_› ?_|refine Ct rfl ?_|refine Cf rfl ?_|refine Bi rfl ?_|refine Bz rfl ?_|refine Lr ?_);conv=>whnf))
    refine CallQ_eq (snapBB x0) ?_
    (refine CallQ_some (F_eqBoard x0 s0) ?_ ?_ ?_; rfl; rfl); ((conv=>whnf);repeat((first|refine Ct ‹_› ?_|refine Cf ‹_› ?_|refine Ct rfl ?_|refine Cf rfl ?_|refine Bi rfl ?_|refine Bz rfl ?_|refine Lr ?_);conv=>whnf))
    (refine CallQ_some (F_toState x1 s1) ?_ ?_ ?_; rfl; rfl); ((conv=>whnf);repeat((first|refine Ct ‹_› ?_|refine Cf ‹_› ?_|refine Ct rfl ?_|refine Cf rfl ?_|refine Bi rfl ?_|refine Bz rfl ?_|refine Lr ?_);conv=>whnf))
    refine CallQ_eq (snapSS x1) ?_
    (refine CallQ_some (F_eqState x1 s1) ?_ ?_ ?_; rfl; rfl); ((conv=>whnf);repeat((first|refine Ct ‹_› ?_|refine Cf ‹_› ?_|refine Ct rfl ?_|refine Cf rfl ?_|refine Bi rfl ?_|refine Bz rfl ?_|refine Lr ?_);conv=>whnf))
    (refine CallQ_some (F_toIntS x3 l3) ?_ ?_ ?_; rfl; rfl); ((conv=>whnf);repeat((first|refine Ct ‹_› ?_|refine Cf ‹_› ?_|refine Ct rfl ?_|refine Cf rfl ?_|refine Bi rfl ?_|refine Bz rfl ?_|refine Lr ?_);conv=>whnf))
    (refine CallQ_some (F_eqIntS x3 l3) ?_ ?_ ?_; rfl; rfl); ((conv=>whnf);repeat((first|refine Ct ‹_› ?_|refine Cf ‹_› ?_|refine Ct rfl ?_|refine Cf rfl ?_|refine Bi rfl ?_|refine Bz rfl ?_|refine Lr ?_);conv=>whnf))
    refine CallR_e (F_markBoard x0 s0 1 (by omega) (by omega)) ?_
    rintro _ _ o' ⟨k0, ka0, kb0, rfl, rfl, hs⟩
    obtain ⟨⟨_, q0⟩, ⟨_, q1⟩, ⟨_, q2⟩, ⟨_, q3⟩, ⟨_, q4⟩, rfl, ⟨⟩, ⟨⟩, ⟨⟩, ⟨⟩, ⟨⟩, tq0, tq1, tq2, tq3, tq4⟩ := shape5 hs
    refine ⟨⟨rfl, tq0.1, tq0.2.1, tq0.2.2, rfl, tq1.1, tq1.2.1, tq1.2.2, rfl, tq2.1, tq2.2.1, tq2.2.2, rfl, tq3.1, tq3.2.1, tq3.2.2, rfl, tq4.1, tq4.2.1, tq4.2.2, trivial⟩, rfl, rfl, ?_⟩
    conv => whnf
    refine ⟨rfl, ?_⟩
    ((conv=>whnf);repeat((first|refine Ct ‹_› ?_|refine Cf ‹_› ?_|refine Ct rfl ?_|refine Cf rfl ?_|refine Bi rfl ?_|refine Bz rfl ?_|refine Lr ?_);conv=>whnf))
    (refine CallR_some (F_markState x1 k0 s1 (by omega) (by omega)) (by repeat (first | exact trivial | refine ⟨rfl, rfl, rfl, rfl, ?_⟩)) ?_ ?_ ?_ ?_; rfl; rfl; rfl); ((conv=>whnf);repeat((first|refine Ct ‹_› ?_|refine Cf ‹_› ?_|refine Ct rfl ?_|refine Cf rfl ?_|refine Bi rfl ?_|refine Bz rfl ?_|refine Lr ?_);conv=>whnf))
    (refine CallR_some (F_markIntS x3 (k0 + 4 * x1.un.length) l3 (by omega) (by omega)) (by repeat (first | exact trivial | refine ⟨rfl, rfl, rfl, rfl, ?_⟩)) ?_ ?_ ?_ ?_; rfl; rfl; rfl); ((conv=>whnf);repeat((first|refine Ct ‹_› ?_|refine Cf ‹_› ?_|refine Ct rfl ?_|refine Cf rfl ?_|refine Bi rfl ?_|refine Bz rfl ?_|refine Lr ?_);conv=>whnf))
    have hkn : decide ((k0 + 4 * x1.un.length + x3.length : Int) < 0) = false := decide_eq_false (by omega)
    ((conv=>whnf);repeat((first|refine Ct ‹_› ?_|refine Cf ‹_› ?_|refine Ct rfl ?_|refine Cf rfl ?_|refine Bi rfl ?_|refine Bz rfl ?_|refine Lr ?_);conv=>whnf))
    (refine CallQ_some (F_eqState0 t0 w0) ?_ ?_ ?_; rfl; rfl); ((conv=>whnf);repeat((first|refine Ct ‹_› ?_|refine Cf ‹_› ?_|refine Ct rfl ?_|refine Cf rfl ?_|refine Bi rfl ?_|refine Bz rfl ?_|refine Lr ?_);conv=>whnf))
    repeat (refine Cnd_f (by simp) ?_; ((conv=>whnf);repeat((first|refine Ct ‹_› ?_|refine Cf ‹_› ?_|refine Ct rfl ?_|refine Cf rfl ?_|refine Bi rfl ?_|refine Bz rfl ?_|refine Lr ?_);conv=>whnf)))
    repeat (refine Cnd_f (by simp) ?_; ((conv=>whnf);repeat((first|refine Ct ‹_› ?_|refine Cf ‹_› ?_|refine Ct rfl ?_|refine Cf rfl ?_|refine Bi rfl ?_|refine Bz rfl ?_|refine Lr ?_);conv=>whnf)))
    (refine CallR_some (F_markState0 t0 w0 1) (by repeat (first | exact trivial | refine ⟨rfl, rfl, rfl, rfl, ?_⟩)) ?_ ?_ ?_ ?_; rfl; rfl; rfl); ((conv=>whnf);repeat((first|refine Ct ‹_› ?_|refine Cf ‹_› ?_|refine Ct rfl ?_|refine Cf rfl ?_|refine Bi rfl ?_|refine Bz rfl ?_|refine Lr ?_);conv=>whnf))
    (refine CallQ_some (F_heldState0 t0 w0 1 (by omega) (by omega)) ?_ ?_ ?_; rfl; rfl); ((conv=>whnf);repeat((first|refine Ct ‹_› ?_|refine Cf ‹_› ?_|refine Ct rfl ?_|refine Cf rfl ?_|refine Bi rfl ?_|refine Bz rfl ?_|refine Lr ?_);conv=>whnf))
    repeat (refine Cnd_f (by simp) ?_; ((conv=>whnf);repeat((first|refine Ct ‹_› ?_|refine Cf ‹_› ?_|refine Ct rfl ?_|refine Cf rfl ?_|refine Bi rfl ?_|refine Bz rfl ?_|refine Lr ?_);conv=>whnf)))
    (refine CallQ_some (F_toBoard x0 s0) ?_ ?_ ?_; rfl; rfl); ((conv=>whnf);repeat((first|refine Ct ‹_› ?_|refine Cf ‹_› ?_|refine Ct rfl ?_|refine Cf rfl ?_|refine Bi rfl ?_|refine Bz rfl ?_|refine Lr ?_);conv=>whnf))
    (refine CallQ_some (F_toState x1 s1) ?_ ?_ ?_; rfl; rfl); ((conv=>whnf);repeat((first|refine Ct ‹_› ?_|refine Cf ‹_› ?_|refine Ct rfl ?_|refine Cf rfl ?_|refine Bi rfl ?_|refine Bz rfl ?_|refine Lr ?_);conv=>whnf))
    (refine CallQ_some (F_toIntS x3 l3) ?_ ?_ ?_; rfl; rfl); ((conv=>whnf);repeat((first|refine Ct ‹_› ?_|refine Cf ‹_› ?_|refine Ct rfl ?_|refine Cf rfl ?_|refine Bi rfl ?_|refine Bz rfl ?_|refine Lr ?_);conv=>whnf))
    refine CallQ_eq (snapBS x0 x1 _) ?_
    (refine CallQ_some (hI) ?_ ?_ ?_; rfl; rfl); ((conv=>whnf);repeat((first|refine Ct ‹_› ?_|refine Cf ‹_› ?_|refine Ct rfl ?_|refine Cf rfl ?_|refine Bi rfl ?_|refine Bz rfl ?_|refine Lr ?_);conv=>whnf))
    (refine CallQ_some (F_eqState0 t0 w0) ?_ ?_ ?_; rfl; rfl); ((conv=>whnf);repeat((first|refine Ct ‹_› ?_|refine Cf ‹_› ?_|refine Ct rfl ?_|refine Cf rfl ?_|refine Bi rfl ?_|refine Bz rfl ?_|refine Lr ?_);conv=>whnf))
    repeat (refine Cnd_f (by simp) ?_; ((conv=>whnf);repeat((first|refine Ct ‹_› ?_|refine Cf ‹_› ?_|refine Ct rfl ?_|refine Cf rfl ?_|refine Bi rfl ?_|refine Bz rfl ?_|refine Lr ?_);conv=>whnf)))
    repeat (refine Cnd_f (by simp) ?_; ((conv=>whnf);repeat((first|refine Ct ‹_› ?_|refine Cf ‹_› ?_|refine Ct rfl ?_|refine Cf rfl ?_|refine Bi rfl ?_|refine Bz rfl ?_|refine Lr ?_);conv=>whnf)))
    (refine CallQ_some (F_heldState0 t0 w0 1 (by omega) (by omega)) ?_ ?_ ?_; rfl; rfl); ((conv=>whnf);repeat((first|refine Ct ‹_› ?_|refine Cf ‹_› ?_|refine Ct rfl ?_|refine Cf rfl ?_|refine Bi rfl ?_|refine Bz rfl ?_|refine Lr ?_);conv=>whnf))
    repeat (refine Cnd_f (by simp) ?_; ((conv=>whnf);repeat((first|refine Ct ‹_› ?_|refine Cf ‹_› ?_|refine Ct rfl ?_|refine Cf rfl ?_|refine Bi rfl ?_|refine Bz rfl ?_|refine Lr ?_);conv=>whnf)))
    exact ⟨rfl, rfl, rfl⟩
  · refine Fun_of_xc k3 rfl rfl (fun k q h => by cases h) ?_
    ((conv=>whnf);repeat((first|refine Ct ‹_› ?_|refine Cf ‹_› ?_|refine Ct rfl ?_|refine Cf rfl ?_|refine Bi rfl ?_|refine Bz rfl ?_|refine Lr ?_);conv=>whnf))
    refine Cnd_i (fun g => ?_) (fun g => ?_)
    · ((conv=>whnf);repeat((first|refine Ct ‹_› ?_|refine Cf ‹_› ?_|refine Ct rfl ?_|refine Cf rfl ?_|refine Bi rfl ?_|refine Bz rfl ?_|refine Lr ?_);conv=>whnf))
      exact ⟨rfl, rfl, rfl⟩
    have l3 : x3.length ≤ 1048576 := by have := of_decide_eq_false g; omega
    ((conv=>whnf);repeat((first|refine Ct ‹_› ?_|refine Cf ‹_› ?_|refine Ct rfl ?_|refine Cf rfl ?_|refine Bi rfl ?_|refine Bz rfl ?_|refine Lr ?_);conv=>whnf))
    (refine CallQ_some (F_szBoard x0 o0 1048576 (by omega) (by omega)) ?_ ?_ ?_; rfl; rfl); ((conv=>whnf);repeat((first|refine Ct ‹_› ?_|refine Cf ‹_› ?_|refine Ct rfl ?_|refine Cf rfl ?_|refine Bi rfl ?_|refine Bz rfl ?_|refine Lr ?_);conv=>whnf))
    refine Cnd_i (fun g => ?_) (fun g => ?_)
    · ((conv=>whnf);repeat((first|refine Ct ‹_› ?_|refine Cf ‹_› ?_|refine Ct rfl ?_|refine Cf rfl ?_|refine Bi rfl ?_|refine Bz rfl ?_|refine Lr ?_);conv=>whnf))
      exact ⟨rfl, rfl, rfl⟩
    have sm0 := szB_sm (b := x0) (x := 1048576) (by omega) (by omega) (of_decide_eq_false g)
    have s0 := sm0.1
    have sb0 := sm0.2
    have sc0 := of_decide_eq_false g
    ((conv=>whnf);repeat((first|refine Ct ‹_› ?_|refine Cf ‹_› ?_|refine Ct rfl ?_|refine Cf rfl ?_|refine Bi rfl ?_|refine Bz rfl ?_|refine Lr ?_);conv=>whnf))
    (refine CallQ_some (F_szState x1 o1 (szB x0 1048576) (by omega) (by omega)) ?_ ?_ ?_; rfl; rfl); ((conv=>whnf);repeat((first|refine Ct ‹_› ?_|refine Cf ‹_› ?_|refine Ct rfl ?_|refine Cf rfl ?_|refine Bi rfl ?_|refine Bz rfl ?_|refine Lr ?_);conv=>whnf))
    refine Cnd_i (fun g => ?_) (fun g => ?_)
    · ((conv=>whnf);repeat((first|refine Ct ‹_› ?_|refine Cf ‹_› ?_|refine Ct rfl ?_|refine Cf rfl ?_|refine Bi rfl ?_|refine Bz rfl ?_|refine Lr ?_);conv=>whnf))
      exact ⟨rfl, rfl, rfl⟩
    have sm1 := szSt_sm (s := x1) (x := szB x0 1048576) (by omega) (by omega) (of_decide_eq_false g)
    have s1 := sm1.1
    have sb1 := sm1.2
    have sc1 := of_decide_eq_false g
    have u1 := s1.un
    ((conv=>whnf);repeat((first|refine Ct ‹_› ?_|refine Cf ‹_› ?_|refine Ct rfl ?_|refine Cf rfl ?_|refine Bi rfl ?_|refine Bz rfl ?_|refine Lr ?_);conv=>whnf))
    (refine CallQ_some (F_toBoard x0 s0) ?_ ?_ ?_; rfl; rfl); ((conv=>whnf);repeat((first|refine Ct ‹_› ?_|refine Cf ‹_› ?_|refine Ct rfl ?_|refine Cf rfl ?_|refine Bi rfl ?_|refine Bz rfl ?_|refine Lr ?_);conv=>whnf))
    (refine CallQ_some (F_toState x1 s1) ?_ ?_ ?_; rfl; rfl); ((conv=>whnf);repeat((first|refine Ct ‹_› ?_|refine Cf ‹_› ?_|refine Ct rfl ?_|refine Cf rfl ?_|refine Bi rfl ?_|refine Bz rfl ?_|refine Lr ?_);conv=>whnf))
    (refine CallQ_some (F_toIntS x3 l3) ?_ ?_ ?_; rfl; rfl); ((conv=>whnf);repeat((first|refine Ct ‹_› ?_|refine Cf ‹_› ?_|refine Ct rfl ?_|refine Cf rfl ?_|refine Bi rfl ?_|refine Bz rfl ?_|refine Lr ?_);conv=>whnf))
    refine CallQ_eq (snapBS x0 x1 _) ?_
    (refine CallQ_some (hS) ?_ ?_ ?_; rfl; rfl); ((conv=>whnf);repeat((first|refine Ct ‹_› ?_|refine Cf ‹_› ?_|refine Ct rfl ?_|refine Cf rfl ?_|refine Bi rfl ?_|refine Bz rfl ?_|refine Lr ?_);conv=>whnf))
    (refine CallQ_some (F_toBoard x0 s0) ?_ ?_ ?_; rfl; rfl); ((conv=>whnf);repeat((first|refine Ct ‹_› ?_|refine Cf ‹_› ?_|refine Ct rfl ?_|refine Cf rfl ?_|refine Bi rfl ?_|refine Bz rfl ?_|refine Lr ?_);conv=>whnf))
    (refine CallQ_some (F_toState x1 s1) ?_ ?_ ?_; rfl; rfl); ((conv=>whnf);repeat((first|refine Ct ‹_› ?_|refine Cf ‹_› ?_|refine Ct rfl ?_|refine Cf rfl ?_|refine Bi rfl ?_|refine Bz rfl ?_|refine Lr ?_);conv=>whnf))
    (refine CallQ_some (F_toIntS x3 l3) ?_ ?_ ?_; rfl; rfl); ((conv=>whnf);repeat((first|refine Ct ‹_› ?_|refine Cf ‹_› ?_|refine Ct rfl ?_|refine Cf rfl ?_|refine Bi rfl ?_|refine Bz rfl ?_|refine Lr ?_);conv=>whnf))
    refine CallQ_eq (snapBS x0 x1 _) ?_
    (refine CallQ_some (hI) ?_ ?_ ?_; rfl; rfl); ((conv=>whnf);repeat((first|refine Ct ‹_› ?_|refine Cf ‹_› ?_|refine Ct rfl ?_|refine Cf rfl ?_|refine Bi rfl ?_|refine Bz rfl ?_|refine Lr ?_);conv=>whnf))
    refine CallQ_eq (snapSS r0) ?_
    (refine CallQ_some (F_eqState r0 hr0) ?_ ?_ ?_; rfl; rfl); ((conv=>whnf);repeat((first|refine Ct ‹_› ?_|refine Cf ‹_› ?_|refine Ct rfl ?_|refine Cf rfl ?_|refine Bi rfl ?_|refine Bz rfl ?_|refine Lr ?_);conv=>whnf))
    repeat (refine Cnd_f (by simp) ?_; ((conv=>whnf);repeat((first|refine Ct ‹_› ?_|refine Cf ‹_› ?_|refine Ct rfl ?_|refine Cf rfl ?_|refine Bi rfl ?_|refine Bz rfl ?_|refine Lr ?_);conv=>whnf)))
    repeat (refine Cnd_f (by simp) ?_; ((conv=>whnf);repeat((first|refine Ct ‹_› ?_|refine Cf ‹_› ?_|refine Ct rfl ?_|refine Cf rfl ?_|refine Bi rfl ?_|refine Bz rfl ?_|refine Lr ?_);conv=>whnf)))
    (refine CallQ_some (F_toBoard x0 s0) ?_ ?_ ?_; rfl; rfl); ((conv=>whnf);repeat((first|refine Ct ‹_› ?_|refine Cf ‹_› ?_|refine Ct rfl ?_|refine Cf rfl ?_|refine Bi rfl ?_|refine Bz rfl ?_|refine Lr ?_);conv=>whnf))
    refine CallQ_eq (snapBB x0) ?_
    (refine CallQ_some (F_eqBoard x0 s0) ?_ ?_ ?_; rfl; rfl); ((conv=>whnf);repeat((first|refine Ct ‹_› ?_|refine Cf ‹_› ?_|refine Ct rfl ?_|refine Cf rfl ?_|refine Bi rfl ?_|refine Bz rfl ?_|refine Lr ?_);conv=>whnf))
    (refine CallQ_some (F_toState x1 s1) ?_ ?_ ?_; rfl; rfl); ((conv=>whnf);repeat((first|refine Ct ‹_› ?_|refine Cf ‹_› ?_|refine Ct rfl ?_|refine Cf rfl ?_|refine Bi rfl ?_|refine Bz rfl ?_|refine Lr ?_);conv=>whnf))
    refine CallQ_eq (snapSS x1) ?_
    (refine CallQ_some (F_eqState x1 s1) ?_ ?_ ?_; rfl; rfl); ((conv=>whnf);repeat((first|refine Ct ‹_› ?_|refine Cf ‹_› ?_|refine Ct rfl ?_|refine Cf rfl ?_|refine Bi rfl ?_|refine Bz rfl ?_|refine Lr ?_);conv=>whnf))
    (refine CallQ_some (F_toIntS x3 l3) ?_ ?_ ?_; rfl; rfl); ((conv=>whnf);repeat((first|refine Ct ‹_› ?_|refine Cf ‹_› ?_|refine Ct rfl ?_|refine Cf rfl ?_|refine Bi rfl ?_|refine Bz rfl ?_|refine Lr ?_);conv=>whnf))
    (refine CallQ_some (F_eqIntS x3 l3) ?_ ?_ ?_; rfl; rfl); ((conv=>whnf);repeat((first|refine Ct ‹_› ?_|refine Cf ‹_› ?_|refine Ct rfl ?_|refine Cf rfl ?_|refine Bi rfl ?_|refine Bz rfl ?_|refine Lr ?_);conv=>whnf))
    refine CallR_e (F_markBoard x0 s0 1 (by omega) (by omega)) ?_
    rintro _ _ o' ⟨k0, ka0, kb0, rfl, rfl, hs⟩
    obtain ⟨⟨_, q0⟩, ⟨_, q1⟩, ⟨_, q2⟩, ⟨_, q3⟩, ⟨_, q4⟩, rfl, ⟨⟩, ⟨⟩, ⟨⟩, ⟨⟩, ⟨⟩, tq0, tq1, tq2, tq3, tq4⟩ := shape5 hs
    refine ⟨⟨rfl, tq0.1, tq0.2.1, tq0.2.2, rfl, tq1.1, tq1.2.1, tq1.2.2, rfl, tq2.1, tq2.2.1, tq2.2.2, rfl, tq3.1, tq3.2.1, tq3.2.2, rfl, tq4.1, tq4.2.1, tq4.2.2, trivial⟩, rfl, rfl, ?_⟩
    conv => whnf
    refine ⟨rfl, ?_⟩
    ((conv=>whnf);repeat((first|refine Ct ‹_› ?_|refine Cf ‹_› ?_|refine Ct rfl ?_|refine Cf rfl ?_|refine Bi rfl ?_|refine Bz rfl ?_|refine Lr ?_);conv=>whnf))
    (refine CallR_some (F_markState x1 k0 s1 (by omega) (by omega)) (by repeat (first | exact trivial | refine ⟨rfl, rfl, rfl, rfl, ?_⟩)) ?_ ?_ ?_ ?_; rfl; rfl; rfl); ((conv=>whnf);repeat((first|refine Ct ‹_› ?_|refine Cf ‹_› ?_|refine Ct rfl ?_|refine Cf rfl ?_|refine Bi rfl ?_|refine Bz rfl ?_|refine Lr ?_);conv=>whnf))
    (refine CallR_some (F_markIntS x3 (k0 + 4 * x1.un.length) l3 (by omega) (by omega)) (by repeat (first | exact trivial | refine ⟨rfl, rfl, rfl, rfl, ?_⟩)) ?_ ?_ ?_ ?_; rfl; rfl; rfl); ((conv=>whnf);repeat((first|refine Ct ‹_› ?_|refine Cf ‹_› ?_|refine Ct rfl ?_|refine Cf rfl ?_|refine Bi rfl ?_|refine Bz rfl ?_|refine Lr ?_);conv=>whnf))
    have hkn : decide ((k0 + 4 * x1.un.length + x3.length : Int) < 0) = false := decide_eq_false (by omega)
    ((conv=>whnf);repeat((first|refine Ct ‹_› ?_|refine Cf ‹_› ?_|refine Ct rfl ?_|refine Cf rfl ?_|refine Bi rfl ?_|refine Bz rfl ?_|refine Lr ?_);conv=>whnf))
    refine CallQ_eq (snapSS r0) ?_
    (refine CallQ_some (F_eqState r0 hr0) ?_ ?_ ?_; rfl; rfl); ((conv=>whnf);repeat((first|refine Ct ‹_› ?_|refine Cf ‹_› ?_|refine Ct rfl ?_|refine Cf rfl ?_|refine Bi rfl ?_|refine Bz rfl ?_|refine Lr ?_);conv=>whnf))
    repeat (refine Cnd_f (by simp) ?_; ((conv=>whnf);repeat((first|refine Ct ‹_› ?_|refine Cf ‹_› ?_|refine Ct rfl ?_|refine Cf rfl ?_|refine Bi rfl ?_|refine Bz rfl ?_|refine Lr ?_);conv=>whnf)))
    repeat (refine Cnd_f (by simp) ?_; ((conv=>whnf);repeat((first|refine Ct ‹_› ?_|refine Cf ‹_› ?_|refine Ct rfl ?_|refine Cf rfl ?_|refine Bi rfl ?_|refine Bz rfl ?_|refine Lr ?_);conv=>whnf)))
    (refine CallR_some (F_markState r0 1 hr0 (by omega) (by omega)) (by repeat (first | exact trivial | refine ⟨rfl, rfl, rfl, rfl, ?_⟩)) ?_ ?_ ?_ ?_; rfl; rfl; rfl); ((conv=>whnf);repeat((first|refine Ct ‹_› ?_|refine Cf ‹_› ?_|refine Ct rfl ?_|refine Cf rfl ?_|refine Bi rfl ?_|refine Bz rfl ?_|refine Lr ?_);conv=>whnf))
    refine CallQ_eq (snapSm r0 1 _) ?_
    (refine CallQ_some (F_heldState r0 1 hr0 (by omega) (by omega)) ?_ ?_ ?_; rfl; rfl); ((conv=>whnf);repeat((first|refine Ct ‹_› ?_|refine Cf ‹_› ?_|refine Ct rfl ?_|refine Cf rfl ?_|refine Bi rfl ?_|refine Bz rfl ?_|refine Lr ?_);conv=>whnf))
    have hq0 : decide (1 + 4 * (r0.un.length : Int) < 0) = false := decide_eq_false (by omega)
    ((conv=>whnf);repeat((first|refine Ct ‹_› ?_|refine Cf ‹_› ?_|refine Ct rfl ?_|refine Cf rfl ?_|refine Bi rfl ?_|refine Bz rfl ?_|refine Lr ?_);conv=>whnf))
    repeat (refine Cnd_f (by simp) ?_; ((conv=>whnf);repeat((first|refine Ct ‹_› ?_|refine Cf ‹_› ?_|refine Ct rfl ?_|refine Cf rfl ?_|refine Bi rfl ?_|refine Bz rfl ?_|refine Lr ?_);conv=>whnf)))
    (refine CallQ_some (F_toBoard x0 s0) ?_ ?_ ?_; rfl; rfl); ((conv=>whnf);repeat((first|refine Ct ‹_› ?_|refine Cf ‹_› ?_|refine Ct rfl ?_|refine Cf rfl ?_|refine Bi rfl ?_|refine Bz rfl ?_|refine Lr ?_);conv=>whnf))
    (refine CallQ_some (F_toState x1 s1) ?_ ?_ ?_; rfl; rfl); ((conv=>whnf);repeat((first|refine Ct ‹_› ?_|refine Cf ‹_› ?_|refine Ct rfl ?_|refine Cf rfl ?_|refine Bi rfl ?_|refine Bz rfl ?_|refine Lr ?_);conv=>whnf))
    (refine CallQ_some (F_toIntS x3 l3) ?_ ?_ ?_; rfl; rfl); ((conv=>whnf);repeat((first|refine Ct ‹_› ?_|refine Cf ‹_› ?_|refine Ct rfl ?_|refine Cf rfl ?_|refine Bi rfl ?_|refine Bz rfl ?_|refine Lr ?_);conv=>whnf))
    refine CallQ_eq (snapBS x0 x1 _) ?_
    (refine CallQ_some (hI) ?_ ?_ ?_; rfl; rfl); ((conv=>whnf);repeat((first|refine Ct ‹_› ?_|refine Cf ‹_› ?_|refine Ct rfl ?_|refine Cf rfl ?_|refine Bi rfl ?_|refine Bz rfl ?_|refine Lr ?_);conv=>whnf))
    refine CallQ_eq (snapSS r0) ?_
    (refine CallQ_some (F_eqState r0 hr0) ?_ ?_ ?_; rfl; rfl); ((conv=>whnf);repeat((first|refine Ct ‹_› ?_|refine Cf ‹_› ?_|refine Ct rfl ?_|refine Cf rfl ?_|refine Bi rfl ?_|refine Bz rfl ?_|refine Lr ?_);conv=>whnf))
    repeat (refine Cnd_f (by simp) ?_; ((conv=>whnf);repeat((first|refine Ct ‹_› ?_|refine Cf ‹_› ?_|refine Ct rfl ?_|refine Cf rfl ?_|refine Bi rfl ?_|refine Bz rfl ?_|refine Lr ?_);conv=>whnf)))
    repeat (refine Cnd_f (by simp) ?_; ((conv=>whnf);repeat((first|refine Ct ‹_› ?_|refine Cf ‹_› ?_|refine Ct rfl ?_|refine Cf rfl ?_|refine Bi rfl ?_|refine Bz rfl ?_|refine Lr ?_);conv=>whnf)))
    refine CallQ_eq (snapSm r0 1 _) ?_
    (refine CallQ_some (F_heldState r0 1 hr0 (by omega) (by omega)) ?_ ?_ ?_; rfl; rfl); ((conv=>whnf);repeat((first|refine Ct ‹_› ?_|refine Cf ‹_› ?_|refine Ct rfl ?_|refine Cf rfl ?_|refine Bi rfl ?_|refine Bz rfl ?_|refine Lr ?_);conv=>whnf))
    repeat (refine Cnd_f (by simp) ?_; ((conv=>whnf);repeat((first|refine Ct ‹_› ?_|refine Cf ‹_› ?_|refine Ct rfl ?_|refine Cf rfl ?_|refine Bi rfl ?_|refine Bz rfl ?_|refine Lr ?_);conv=>whnf)))
    exact ⟨rfl, rfl, rfl⟩
end Go.Proofs.YtbcohkgcakgpcaaGreatDoor.Ab
