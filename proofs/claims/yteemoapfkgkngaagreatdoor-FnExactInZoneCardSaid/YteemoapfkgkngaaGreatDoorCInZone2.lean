/- Contracts of the functions that FnExactInZone reaches, by the abstract machine (part 2).
   Conditions: none. -/
import Derived.Test.YteemoapfkgkngaaGreatDoorCInZone1
set_option linter.unusedVariables false
set_option linter.unusedSimpArgs false
namespace Go.Proofs.YteemoapfkgkngaaGreatDoor.Ab
open Go Go.RowKit
attribute [local irreducible] Cnd Bnd Rw CallQ CallR Bts Isn Lc WLoop
set_option maxRecDepth 100000
set_option maxHeartbeats 1000000
theorem F_zExerts (b : Brd) (s : Stt) (h : StOk b s) (t i : Int) (t0 : 0 ≤ t) (t1 : t < s.un.length) (i0 : 0 ≤ i) (i1 : i < b.m.ter.length) :
    Fun E0 114 [.agg b.cs, .agg s.cs, vI t, vI i] [] (.v (vB (zx b (s.un.getD t.toNat Unt.d) i))) [] [] := by
  have hU := h.un _ (getD_memT (d := Unt.d) t0 t1)
  have hk := hU.kind
  have hm := h.gb.wh.mul
  have hn := h.gb.n
  refine Fun_of_xc k114 rfl rfl (fun k q h => by cases h) ?_
  ((conv=>whnf);repeat((first|refine Ct ‹_› ?_|refine Cf ‹_› ?_|refine Ct rfl ?_|refine Cf rfl ?_|refine Bi rfl ?_|refine Bz rfl ?_|refine Lr ?_);conv=>whnf))
  refine Bnd_i (⟨t0, t1⟩) ?_; ((conv=>whnf);repeat((first|refine Ct ‹_› ?_|refine Cf ‹_› ?_|refine Ct rfl ?_|refine Cf rfl ?_|refine Bi rfl ?_|refine Bz rfl ?_|refine Lr ?_);conv=>whnf))
  refine Cnd_i (fun g1 => ?_) (fun g1 => ?_)
  · ((conv=>whnf);repeat((first|refine Ct ‹_› ?_|refine Cf ‹_› ?_|refine Ct rfl ?_|refine Cf rfl ?_|refine Bi rfl ?_|refine Bz rfl ?_|refine Lr ?_);conv=>whnf))
    rw [zx, if_pos g1]
    exact ⟨rfl, rfl, rfl⟩
  have e1 : ¬ decide ((s.un.getD t.toNat Unt.d).at' < 0) = true := by rw [g1]; simp
  have ha := of_decide_eq_false g1
  have hat : 0 ≤ (s.un.getD t.toNat Unt.d).at' ∧ (s.un.getD t.toNat Unt.d).at' < b.m.ter.length := by have := hU.at'; omega
  ((conv=>whnf);repeat((first|refine Ct ‹_› ?_|refine Cf ‹_› ?_|refine Ct rfl ?_|refine Cf rfl ?_|refine Bi rfl ?_|refine Bz rfl ?_|refine Lr ?_);conv=>whnf))
  refine Bnd_i (⟨hk.1, hk.2⟩) ?_; ((conv=>whnf);repeat((first|refine Ct ‹_› ?_|refine Cf ‹_› ?_|refine Ct rfl ?_|refine Cf rfl ?_|refine Bi rfl ?_|refine Bz rfl ?_|refine Lr ?_);conv=>whnf))
  refine Cnd_i (fun g2 => ?_) (fun g2 => ?_)
  · ((conv=>whnf);repeat((first|refine Ct ‹_› ?_|refine Cf ‹_› ?_|refine Ct rfl ?_|refine Cf rfl ?_|refine Bi rfl ?_|refine Bz rfl ?_|refine Lr ?_);conv=>whnf))
    have e2 : (b.r.knd.getD (s.un.getD t.toNat Unt.d).kind.toNat Knd.d).zone = false := by rwa [Bool.not_eq_true'] at g2
    rw [zx, if_neg e1, e2]
    exact ⟨rfl, rfl, rfl⟩
  have e2 : (b.r.knd.getD (s.un.getD t.toNat Unt.d).kind.toNat Knd.d).zone = true := by rwa [Bool.not_eq_false'] at g2
  ((conv=>whnf);repeat((first|refine Ct ‹_› ?_|refine Cf ‹_› ?_|refine Ct rfl ?_|refine Cf rfl ?_|refine Bi rfl ?_|refine Bz rfl ?_|refine Lr ?_);conv=>whnf))
  (refine CallQ_some (F_bCost b h.gb (s.un.getD t.toNat Unt.d).kind i i0 i1 hk.1 hk.2) ?_ ?_ ?_; rfl; rfl); ((conv=>whnf);repeat((first|refine Ct ‹_› ?_|refine Cf ‹_› ?_|refine Ct rfl ?_|refine Cf rfl ?_|refine Bi rfl ?_|refine Bz rfl ?_|refine Lr ?_);conv=>whnf))
  refine Cnd_i (fun g3 => ?_) (fun g3 => ?_)
  · ((conv=>whnf);repeat((first|refine Ct ‹_› ?_|refine Cf ‹_› ?_|refine Ct rfl ?_|refine Cf rfl ?_|refine Bi rfl ?_|refine Bz rfl ?_|refine Lr ?_);conv=>whnf))
    rw [zx, if_neg e1, if_pos e2, if_pos g3]
    exact ⟨rfl, rfl, rfl⟩
  ((conv=>whnf);repeat((first|refine Ct ‹_› ?_|refine Cf ‹_› ?_|refine Ct rfl ?_|refine Cf rfl ?_|refine Bi rfl ?_|refine Bz rfl ?_|refine Lr ?_);conv=>whnf))
  rw [zx, if_neg e1, if_pos e2, if_neg (by rw [g3]; simp)]
  generalize s.un.getD t.toNat Unt.d = u at hat hk ⊢
  refine WLoop_v ⟨[3, 4, 9, 10], [4, 9], []⟩ (fun (d : Int) => hdS 65 [(3, .v (vI i)), (4, .v (.one (.box 4 0))), (9, .v (.one (.box 9 0))), (10, .v (vI d))] [(4, b.cs), (9, u.cs)] [])
    (fun n d => 0 ≤ d ∧ d + n = 6 ∧ zDir b.m u.at' i n d = zDir b.m u.at' i 6 0) 6 0 rfl ⟨by omega, by omega, rfl⟩ ?_
  rintro n d ⟨h1, h2, h3⟩
  ((conv=>whnf);repeat((first|refine Ct ‹_› ?_|refine Cf ‹_› ?_|refine Ct rfl ?_|refine Cf rfl ?_|refine Bi rfl ?_|refine Bz rfl ?_|refine Lr ?_);conv=>whnf))
  refine Cnd_i (fun g => ?_) (fun g => ?_)
  · have hd := of_decide_eq_true g
    obtain ⟨n, rfl⟩ : ∃ n', n = n' + 1 := ⟨n - 1, by omega⟩
    rw [zDir] at h3
    ((conv=>whnf);repeat((first|refine Ct ‹_› ?_|refine Cf ‹_› ?_|refine Ct rfl ?_|refine Cf rfl ?_|refine Bi rfl ?_|refine Bz rfl ?_|refine Lr ?_);conv=>whnf))
    (refine CallQ_some (F_mNext b.m h.gb.wh u.at' d hat.1 (by omega) h1 (by omega)) ?_ ?_ ?_; rfl; rfl); ((conv=>whnf);repeat((first|refine Ct ‹_› ?_|refine Cf ‹_› ?_|refine Ct rfl ?_|refine Cf rfl ?_|refine Bi rfl ?_|refine Bz rfl ?_|refine Lr ?_);conv=>whnf))
    refine Cnd_i (fun g4 => ?_) (fun g4 => ?_)
    · rw [if_pos g4] at h3
      ((conv=>whnf);repeat((first|refine Ct ‹_› ?_|refine Cf ‹_› ?_|refine Ct rfl ?_|refine Cf rfl ?_|refine Bi rfl ?_|refine Bz rfl ?_|refine Lr ?_);conv=>whnf))
      (refine CallQ_some (F_mRiver b.m h.gb.wh h.gb.ok.m u.at' d hat.1 (by omega) h1 (by omega)) ?_ ?_ ?_; rfl; rfl); ((conv=>whnf);repeat((first|refine Ct ‹_› ?_|refine Cf ‹_› ?_|refine Ct rfl ?_|refine Cf rfl ?_|refine Bi rfl ?_|refine Bz rfl ?_|refine Lr ?_);conv=>whnf))
      refine Cnd_i (fun g5 => ?_) (fun g5 => ?_)
      · ((conv=>whnf);repeat((first|refine Ct ‹_› ?_|refine Cf ‹_› ?_|refine Ct rfl ?_|refine Cf rfl ?_|refine Bi rfl ?_|refine Bz rfl ?_|refine Lr ?_);conv=>whnf))
        rw [← h3, g5]
        exact ⟨rfl, rfl, rfl⟩
      · ((conv=>whnf);repeat((first|refine Ct ‹_› ?_|refine Cf ‹_› ?_|refine Ct rfl ?_|refine Cf rfl ?_|refine Bi rfl ?_|refine Bz rfl ?_|refine Lr ?_);conv=>whnf))
        (refine CallQ_some (F_mRoad b.m h.gb.wh h.gb.ok.m u.at' d hat.1 (by omega) h1 (by omega)) ?_ ?_ ?_; rfl; rfl); ((conv=>whnf);repeat((first|refine Ct ‹_› ?_|refine Cf ‹_› ?_|refine Ct rfl ?_|refine Cf rfl ?_|refine Bi rfl ?_|refine Bz rfl ?_|refine Lr ?_);conv=>whnf))
        rw [← h3, g5]
        exact ⟨rfl, rfl, rfl⟩
    · rw [if_neg (by rw [g4]; simp)] at h3
      ((conv=>whnf);repeat((first|refine Ct ‹_› ?_|refine Cf ‹_› ?_|refine Ct rfl ?_|refine Cf rfl ?_|refine Bi rfl ?_|refine Bz rfl ?_|refine Lr ?_);conv=>whnf))
      refine ⟨n, d + 1, ?_, by omega, by omega, by omega, h3⟩
      rw [wrapI (by omega)]; rfl
  · have hd := of_decide_eq_false g
    obtain rfl : n = 0 := by omega
    rw [zDir] at h3
    ((conv=>whnf);repeat((first|refine Ct ‹_› ?_|refine Cf ‹_› ?_|refine Ct rfl ?_|refine Cf rfl ?_|refine Bi rfl ?_|refine Bz rfl ?_|refine Lr ?_);conv=>whnf))
    rw [← h3]
    exact ⟨rfl, rfl, rfl⟩

theorem F_crossesFreely (m : Map) (ho : m.Ok) (e : Int) : Fun E0 116 [.agg m.cs, vI e] [] (.v (vB (!(m.riv.contains e) || m.roa.contains e))) [] [] := by
  refine Fun_of_xc k116 rfl rfl (fun k q h => by cases h) ?_
  ((conv=>whnf);repeat((first|refine Ct ‹_› ?_|refine Cf ‹_› ?_|refine Ct rfl ?_|refine Cf rfl ?_|refine Bi rfl ?_|refine Bz rfl ?_|refine Lr ?_);conv=>whnf))
  (refine CallQ_some (F_Contains _ _ ho.riv.len) ?_ ?_ ?_; rfl; rfl); ((conv=>whnf);repeat((first|refine Ct ‹_› ?_|refine Cf ‹_› ?_|refine Ct rfl ?_|refine Cf rfl ?_|refine Bi rfl ?_|refine Bz rfl ?_|refine Lr ?_);conv=>whnf))
  refine Cnd_i (fun g5 => ?_) (fun g5 => ?_)
  · ((conv=>whnf);repeat((first|refine Ct ‹_› ?_|refine Cf ‹_› ?_|refine Ct rfl ?_|refine Cf rfl ?_|refine Bi rfl ?_|refine Bz rfl ?_|refine Lr ?_);conv=>whnf))
    rw [g5]
    exact ⟨rfl, rfl, rfl⟩
  · ((conv=>whnf);repeat((first|refine Ct ‹_› ?_|refine Cf ‹_› ?_|refine Ct rfl ?_|refine Cf rfl ?_|refine Bi rfl ?_|refine Bz rfl ?_|refine Lr ?_);conv=>whnf))
    (refine CallQ_some (F_Contains _ _ ho.roa.len) ?_ ?_ ?_; rfl; rfl); ((conv=>whnf);repeat((first|refine Ct ‹_› ?_|refine Cf ‹_› ?_|refine Ct rfl ?_|refine Cf rfl ?_|refine Bi rfl ?_|refine Bz rfl ?_|refine Lr ?_);conv=>whnf))
    rw [g5]
    exact ⟨rfl, rfl, rfl⟩

theorem F_controls (b : Brd) (h : GB b) (u : Unt) (hU : UnOk b u) (i : Int) (i0 : 0 ≤ i) (i1 : i < b.m.ter.length) :
    Fun E0 84 [.agg b.cs, .agg u.cs, vI i] [] (.v (vB (zx b u i))) [] [] := by
  have hk := hU.kind
  have hm := h.wh.mul
  have hn := h.n
  refine Fun_of_xc k84 rfl rfl (fun k q h => by cases h) ?_
  ((conv=>whnf);repeat((first|refine Ct ‹_› ?_|refine Cf ‹_› ?_|refine Ct rfl ?_|refine Cf rfl ?_|refine Bi rfl ?_|refine Bz rfl ?_|refine Lr ?_);conv=>whnf))
  refine Cnd_i (fun g1 => ?_) (fun g1 => ?_)
  · ((conv=>whnf);repeat((first|refine Ct ‹_› ?_|refine Cf ‹_› ?_|refine Ct rfl ?_|refine Cf rfl ?_|refine Bi rfl ?_|refine Bz rfl ?_|refine Lr ?_);conv=>whnf))
    rw [zx, if_pos g1]
    exact ⟨rfl, rfl, rfl⟩
  have e1 : ¬ decide (u.at' < 0) = true := by rw [g1]; simp
  have ha := of_decide_eq_false g1
  have hat : 0 ≤ u.at' ∧ u.at' < b.m.ter.length := by have := hU.at'; omega
  ((conv=>whnf);repeat((first|refine Ct ‹_› ?_|refine Cf ‹_› ?_|refine Ct rfl ?_|refine Cf rfl ?_|refine Bi rfl ?_|refine Bz rfl ?_|refine Lr ?_);conv=>whnf))
  refine Bnd_i (⟨hk.1, hk.2⟩) ?_; ((conv=>whnf);repeat((first|refine Ct ‹_› ?_|refine Cf ‹_› ?_|refine Ct rfl ?_|refine Cf rfl ?_|refine Bi rfl ?_|refine Bz rfl ?_|refine Lr ?_);conv=>whnf))
  refine Cnd_i (fun g2 => ?_) (fun g2 => ?_)
  · ((conv=>whnf);repeat((first|refine Ct ‹_› ?_|refine Cf ‹_› ?_|refine Ct rfl ?_|refine Cf rfl ?_|refine Bi rfl ?_|refine Bz rfl ?_|refine Lr ?_);conv=>whnf))
    have e2 : (b.r.knd.getD u.kind.toNat Knd.d).zone = false := by rwa [Bool.not_eq_true'] at g2
    rw [zx, if_neg e1, e2]
    exact ⟨rfl, rfl, rfl⟩
  have e2 : (b.r.knd.getD u.kind.toNat Knd.d).zone = true := by rwa [Bool.not_eq_false'] at g2
  ((conv=>whnf);repeat((first|refine Ct ‹_› ?_|refine Cf ‹_› ?_|refine Ct rfl ?_|refine Cf rfl ?_|refine Bi rfl ?_|refine Bz rfl ?_|refine Lr ?_);conv=>whnf))
  (refine CallQ_some (F_enterCost b h u.kind i i0 i1 hk.1 hk.2) ?_ ?_ ?_; rfl; rfl); ((conv=>whnf);repeat((first|refine Ct ‹_› ?_|refine Cf ‹_› ?_|refine Ct rfl ?_|refine Cf rfl ?_|refine Bi rfl ?_|refine Bz rfl ?_|refine Lr ?_);conv=>whnf))
  refine Cnd_i (fun g3 => ?_) (fun g3 => ?_)
  · ((conv=>whnf);repeat((first|refine Ct ‹_› ?_|refine Cf ‹_› ?_|refine Ct rfl ?_|refine Cf rfl ?_|refine Bi rfl ?_|refine Bz rfl ?_|refine Lr ?_);conv=>whnf))
    rw [zx, if_neg e1, if_pos e2, if_pos g3]
    exact ⟨rfl, rfl, rfl⟩
  ((conv=>whnf);repeat((first|refine Ct ‹_› ?_|refine Cf ‹_› ?_|refine Ct rfl ?_|refine Cf rfl ?_|refine Bi rfl ?_|refine Bz rfl ?_|refine Lr ?_);conv=>whnf))
  rw [zx, if_neg e1, if_pos e2, if_neg (by rw [g3]; simp)]
  refine WLoop_v ⟨[2, 3, 4, 30], [3, 4], []⟩ (fun (d : Int) => hdS 51 [(2, .v (vI i)), (3, .v (.one (.box 3 0))), (4, .v (.one (.box 4 0))), (30, .v (vI d))] [(3, b.cs), (4, u.cs)] [])
    (fun n d => 0 ≤ d ∧ d + n = 6 ∧ zDir b.m u.at' i n d = zDir b.m u.at' i 6 0) 6 0 rfl ⟨by omega, by omega, rfl⟩ ?_
  rintro n d ⟨h1, h2, h3⟩
  ((conv=>whnf);repeat((first|refine Ct ‹_› ?_|refine Cf ‹_› ?_|refine Ct rfl ?_|refine Cf rfl ?_|refine Bi rfl ?_|refine Bz rfl ?_|refine Lr ?_);conv=>whnf))
  refine Cnd_i (fun g => ?_) (fun g => ?_)
  · have hd := of_decide_eq_true g
    obtain ⟨n, rfl⟩ : ∃ n', n = n' + 1 := ⟨n - 1, by omega⟩
    rw [zDir] at h3
    ((conv=>whnf);repeat((first|refine Ct ‹_› ?_|refine Cf ‹_› ?_|refine Ct rfl ?_|refine Cf rfl ?_|refine Bi rfl ?_|refine Bz rfl ?_|refine Lr ?_);conv=>whnf))
    (refine CallQ_some (F_nextTo b.m h.wh u.at' d hat.1 (by omega) h1 (by omega)) ?_ ?_ ?_; rfl; rfl); ((conv=>whnf);repeat((first|refine Ct ‹_› ?_|refine Cf ‹_› ?_|refine Ct rfl ?_|refine Cf rfl ?_|refine Bi rfl ?_|refine Bz rfl ?_|refine Lr ?_);conv=>whnf))
    refine Cnd_i (fun g4 => ?_) (fun g4 => ?_)
    · rw [if_pos g4] at h3
      have e4 : nx b.m u.at' d = i := by simpa using g4
      ((conv=>whnf);repeat((first|refine Ct ‹_› ?_|refine Cf ‹_› ?_|refine Ct rfl ?_|refine Cf rfl ?_|refine Bi rfl ?_|refine Bz rfl ?_|refine Lr ?_);conv=>whnf))
      (refine CallQ_some (F_edgeOf b.m h.wh u.at' d hat.1 (by omega) h1 (by omega) (by omega)) ?_ ?_ ?_; rfl; rfl); ((conv=>whnf);repeat((first|refine Ct ‹_› ?_|refine Cf ‹_› ?_|refine Ct rfl ?_|refine Cf rfl ?_|refine Bi rfl ?_|refine Bz rfl ?_|refine Lr ?_);conv=>whnf))
      (refine CallQ_some (F_crossesFreely b.m h.ok.m _) ?_ ?_ ?_; rfl; rfl); ((conv=>whnf);repeat((first|refine Ct ‹_› ?_|refine Cf ‹_› ?_|refine Ct rfl ?_|refine Cf rfl ?_|refine Bi rfl ?_|refine Bz rfl ?_|refine Lr ?_);conv=>whnf))
      rw [← h3]
      exact ⟨rfl, rfl, rfl⟩
    · rw [if_neg (by rw [g4]; simp)] at h3
      ((conv=>whnf);repeat((first|refine Ct ‹_› ?_|refine Cf ‹_› ?_|refine Ct rfl ?_|refine Cf rfl ?_|refine Bi rfl ?_|refine Bz rfl ?_|refine Lr ?_);conv=>whnf))
      refine ⟨n, d + 1, ?_, by omega, by omega, by omega, h3⟩
      rw [wrapI (by omega)]; rfl
  · have hd := of_decide_eq_false g
    obtain rfl : n = 0 := by omega
    rw [zDir] at h3
    ((conv=>whnf);repeat((first|refine Ct ‹_› ?_|refine Cf ‹_› ?_|refine Ct rfl ?_|refine Cf rfl ?_|refine Bi rfl ?_|refine Bz rfl ?_|refine Lr ?_);conv=>whnf))
    rw [← h3]
    exact ⟨rfl, rfl, rfl⟩

def zS (b : Brd) (side i : Int) (u : Unt) : Bool := u.side == side && zx b u i

def zn (b : Brd) (s : Stt) (side i : Int) : Bool := s.un.any (zS b side i)

theorem F_zSources (b : Brd) (s : Stt) (h : StOk b s) (side i : Int) (i0 : 0 ≤ i) (i1 : i < b.m.ter.length) :
    Fun E0 80 [.agg b.cs, .agg s.cs, vI side, vI i] [] (.v (.one (.own 0 (selU (zS b side i) s.un s.un.length).length))) [(0, rwI (selU (zS b side i) s.un s.un.length))] [] := by
  have hl := h.len
  refine Fun_of_xc k80 rfl rfl (nrC (rwI_no _) nrN) ?_
  ((conv=>whnf);repeat((first|refine Ct ‹_› ?_|refine Cf ‹_› ?_|refine Ct rfl ?_|refine Cf rfl ?_|refine Bi rfl ?_|refine Bz rfl ?_|refine Lr ?_);conv=>whnf))
  refine Rw_i (rwI []) (rwI_nil _) ?_
  ((conv=>whnf);repeat((first|refine Ct ‹_› ?_|refine Cf ‹_› ?_|refine Ct rfl ?_|refine Cf rfl ?_|refine Bi rfl ?_|refine Bz rfl ?_|refine Lr ?_);conv=>whnf))
  refine Rw_i (rwI []) (rwI_nil _) ?_
  ((conv=>whnf);repeat((first|refine Ct ‹_› ?_|refine Cf ‹_› ?_|refine Ct rfl ?_|refine Cf rfl ?_|refine Bi rfl ?_|refine Bz rfl ?_|refine Lr ?_);conv=>whnf))
  refine WLoop_v2 ⟨[2, 3, 4, 5, 9, 13, 14, 15], [4, 5], []⟩ (fun (t : Int) (out : List Int) => hdS 37 [(2, .v (vI side)), (3, .v (vI i)), (4, .v (.one (.box 4 0))), (5, .v (.one (.box 5 0))), (9, .v (.one (.own (vkey 9) out.length))), (13, .v (.one (roU s.un))), (14, .v (vI s.un.length)), (15, .v (vI t))] [(4, b.cs), (5, s.cs)] [(vkey 9, rwI out)])
    (fun n t out => 0 ≤ t ∧ t + n = s.un.length ∧ out = selU (zS b side i) s.un t.toNat) s.un.length 0 [] rfl ⟨by omega, by omega, rfl⟩ ?_
  rintro n t out ⟨h1, h2, h3⟩
  have hle := selU_le (zS b side i) s.un t.toNat
  rw [← h3] at hle
  have hnx : selU (zS b side i) s.un (t + 1).toNat = if zS b side i (s.un.getD t.toNat Unt.d) = true then out ++ [t] else out := by
    rw [show (t + 1).toNat = t.toNat + 1 by omega, selU, ← h3, show ((t.toNat : Nat) : Int) = t by omega]
  ((conv=>whnf);repeat((first|refine Ct ‹_› ?_|refine Cf ‹_› ?_|refine Ct rfl ?_|refine Cf rfl ?_|refine Bi rfl ?_|refine Bz rfl ?_|refine Lr ?_);conv=>whnf))
  refine Cnd_i (fun g => ?_) (fun g => ?_)
  · have ht := of_decide_eq_true g
    ((conv=>whnf);repeat((first|refine Ct ‹_› ?_|refine Cf ‹_› ?_|refine Ct rfl ?_|refine Cf rfl ?_|refine Bi rfl ?_|refine Bz rfl ?_|refine Lr ?_);conv=>whnf))
    refine Bnd_i (⟨h1, ht⟩) ?_; ((conv=>whnf);repeat((first|refine Ct ‹_› ?_|refine Cf ‹_› ?_|refine Ct rfl ?_|refine Cf rfl ?_|refine Bi rfl ?_|refine Bz rfl ?_|refine Lr ?_);conv=>whnf))
    refine Cnd_i (fun g2 => ?_) (fun g2 => ?_)
    · ((conv=>whnf);repeat((first|refine Ct ‹_› ?_|refine Cf ‹_› ?_|refine Ct rfl ?_|refine Cf rfl ?_|refine Bi rfl ?_|refine Bz rfl ?_|refine Lr ?_);conv=>whnf))
      (refine CallQ_some (F_zExerts b s h t i h1 ht i0 i1) ?_ ?_ ?_; rfl; rfl); ((conv=>whnf);repeat((first|refine Ct ‹_› ?_|refine Cf ‹_› ?_|refine Ct rfl ?_|refine Cf rfl ?_|refine Bi rfl ?_|refine Bz rfl ?_|refine Lr ?_);conv=>whnf))
      refine Cnd_i (fun g3 => ?_) (fun g3 => ?_)
      · ((conv=>whnf);repeat((first|refine Ct ‹_› ?_|refine Cf ‹_› ?_|refine Ct rfl ?_|refine Cf rfl ?_|refine Bi rfl ?_|refine Bz rfl ?_|refine Lr ?_);conv=>whnf))
        refine Rw_self ?_
        ((conv=>whnf);repeat((first|refine Ct ‹_› ?_|refine Cf ‹_› ?_|refine Ct rfl ?_|refine Cf rfl ?_|refine Bi rfl ?_|refine Bz rfl ?_|refine Lr ?_);conv=>whnf))
        refine Bnd_i ?_ ?_
        · show out.length + 1 < _
          omega
        ((conv=>whnf);repeat((first|refine Ct ‹_› ?_|refine Cf ‹_› ?_|refine Ct rfl ?_|refine Cf rfl ?_|refine Bi rfl ?_|refine Bz rfl ?_|refine Lr ?_);conv=>whnf))
        refine Rw_i (rwI (out ++ [t])) (rwI_app _ _ _ rfl) ?_
        ((conv=>whnf);repeat((first|refine Ct ‹_› ?_|refine Cf ‹_› ?_|refine Ct rfl ?_|refine Cf rfl ?_|refine Bi rfl ?_|refine Bz rfl ?_|refine Lr ?_);conv=>whnf))
        rw [if_pos (by rw [zS, g2, g3]; rfl)] at hnx
        refine ⟨n - 1, t + 1, out ++ [t], ?_, by omega, by omega, by omega, hnx.symm⟩
        rw [wrapI (by omega)]; rfl
      · ((conv=>whnf);repeat((first|refine Ct ‹_› ?_|refine Cf ‹_› ?_|refine Ct rfl ?_|refine Cf rfl ?_|refine Bi rfl ?_|refine Bz rfl ?_|refine Lr ?_);conv=>whnf))
        rw [if_neg (by rw [zS, g2, g3]; simp)] at hnx
        refine ⟨n - 1, t + 1, out, ?_, by omega, by omega, by omega, hnx.symm⟩
        rw [wrapI (by omega)]; rfl
    · ((conv=>whnf);repeat((first|refine Ct ‹_› ?_|refine Cf ‹_› ?_|refine Ct rfl ?_|refine Cf rfl ?_|refine Bi rfl ?_|refine Bz rfl ?_|refine Lr ?_);conv=>whnf))
      rw [if_neg (by rw [zS, g2]; simp)] at hnx
      refine ⟨n - 1, t + 1, out, ?_, by omega, by omega, by omega, hnx.symm⟩
      rw [wrapI (by omega)]; rfl
  · have ht := of_decide_eq_false g
    ((conv=>whnf);repeat((first|refine Ct ‹_› ?_|refine Cf ‹_› ?_|refine Ct rfl ?_|refine Cf rfl ?_|refine Bi rfl ?_|refine Bz rfl ?_|refine Lr ?_);conv=>whnf))
    rw [h3, show t.toNat = s.un.length by omega]
    exact ⟨rfl, rfl, rfl⟩

theorem selU_any (q : Unt → Bool) (us : List Unt) : decide (((selU q us us.length).length : Int) > 0) = us.any q := by
  have key : ∀ n, 0 < (selU q us n).length ↔ ∃ k, k < n ∧ q (us.getD k Unt.d) = true := by
    intro n
    induction n with
    | zero => simp [selU]
    | succ n ih =>
      rw [selU]
      split
      · rename_i e
        refine ⟨fun _ => ⟨n, by omega, e⟩, fun _ => by simp⟩
      · rename_i e
        rw [ih]
        constructor
        · rintro ⟨k, h1, h2⟩; exact ⟨k, by omega, h2⟩
        · rintro ⟨k, h1, h2⟩
          by_cases hk : k = n
          · subst hk; exact absurd h2 e
          · exact ⟨k, by omega, h2⟩
  have k2 : us.any q = true ↔ ∃ k, k < us.length ∧ q (us.getD k Unt.d) = true := by
    rw [List.any_eq_true]
    constructor
    · rintro ⟨x, hx, hq⟩
      obtain ⟨k, hk, rfl⟩ := List.mem_iff_getElem.1 hx
      exact ⟨k, hk, by simpa [hk] using hq⟩
    · rintro ⟨k, hk, hq⟩
      exact ⟨us[k], List.getElem_mem hk, by simpa [hk] using hq⟩
  rw [Bool.eq_iff_iff, decide_eq_true_eq, k2, ← key]
  omega

theorem F_zIn (b : Brd) (s : Stt) (h : StOk b s) (i side : Int) (i0 : 0 ≤ i) (i1 : i < b.m.ter.length) :
    Fun E0 40 [.agg b.cs, .agg s.cs, vI i, vI side] [] (.v (vB (zn b s side i))) [] [] := by
  refine Fun_of_xc k40 rfl rfl (fun k q h => by cases h) ?_
  ((conv=>whnf);repeat((first|refine Ct ‹_› ?_|refine Cf ‹_› ?_|refine Ct rfl ?_|refine Cf rfl ?_|refine Bi rfl ?_|refine Bz rfl ?_|refine Lr ?_);conv=>whnf))
  (refine CallQ_some (F_zSources b s h side i i0 i1) ?_ ?_ ?_; rfl; rfl); ((conv=>whnf);repeat((first|refine Ct ‹_› ?_|refine Cf ‹_› ?_|refine Ct rfl ?_|refine Cf rfl ?_|refine Bi rfl ?_|refine Bz rfl ?_|refine Lr ?_);conv=>whnf))
  rw [zn, ← selU_any]
  exact ⟨rfl, rfl, rfl⟩

theorem F_inZone (b : Brd) (s : Stt) (h : StOk b s) (side i : Int) (i0 : 0 ≤ i) (i1 : i < b.m.ter.length) :
    Fun E0 44 [.agg b.cs, .agg s.cs, vI side, vI i] [] (.v (vB (zn b s side i))) [] [] := by
  have hl := h.len
  refine Fun_of_xc k44 rfl rfl (fun k q h => by cases h) ?_
  ((conv=>whnf);repeat((first|refine Ct ‹_› ?_|refine Cf ‹_› ?_|refine Ct rfl ?_|refine Cf rfl ?_|refine Bi rfl ?_|refine Bz rfl ?_|refine Lr ?_);conv=>whnf))
  refine WLoop_v ⟨[2, 3, 4, 12, 13, 14], [4], []⟩ (fun (t : Int) => hdS 29 [(2, .v (vI side)), (3, .v (vI i)), (4, .v (.one (.box 4 0))), (12, .v (.one (roU s.un))), (13, .v (vI s.un.length)), (14, .v (vI t))] [(4, b.cs)] [])
    (fun n t => 0 ≤ t ∧ t + n = s.un.length ∧ (s.un.drop t.toNat).any (zS b side i) = zn b s side i) s.un.length 0 rfl ⟨by omega, by omega, rfl⟩ ?_
  rintro n t ⟨h1, h2, h3⟩
  ((conv=>whnf);repeat((first|refine Ct ‹_› ?_|refine Cf ‹_› ?_|refine Ct rfl ?_|refine Cf rfl ?_|refine Bi rfl ?_|refine Bz rfl ?_|refine Lr ?_);conv=>whnf))
  refine Cnd_i (fun g => ?_) (fun g => ?_)
  · have ht := of_decide_eq_true g
    have hU := h.un _ (getD_memT (d := Unt.d) h1 ht)
    rw [drop_cons (d := Unt.d) h1 ht, List.any_cons] at h3
    ((conv=>whnf);repeat((first|refine Ct ‹_› ?_|refine Cf ‹_› ?_|refine Ct rfl ?_|refine Cf rfl ?_|refine Bi rfl ?_|refine Bz rfl ?_|refine Lr ?_);conv=>whnf))
    refine Bnd_i (⟨h1, ht⟩) ?_; ((conv=>whnf);repeat((first|refine Ct ‹_› ?_|refine Cf ‹_› ?_|refine Ct rfl ?_|refine Cf rfl ?_|refine Bi rfl ?_|refine Bz rfl ?_|refine Lr ?_);conv=>whnf))
    refine Cnd_i (fun g2 => ?_) (fun g2 => ?_)
    · ((conv=>whnf);repeat((first|refine Ct ‹_› ?_|refine Cf ‹_› ?_|refine Ct rfl ?_|refine Cf rfl ?_|refine Bi rfl ?_|refine Bz rfl ?_|refine Lr ?_);conv=>whnf))
      (refine CallQ_some (F_controls b h.gb (s.un.getD t.toNat Unt.d) hU i i0 i1) ?_ ?_ ?_; rfl; rfl); ((conv=>whnf);repeat((first|refine Ct ‹_› ?_|refine Cf ‹_› ?_|refine Ct rfl ?_|refine Cf rfl ?_|refine Bi rfl ?_|refine Bz rfl ?_|refine Lr ?_);conv=>whnf))
      refine Cnd_i (fun g3 => ?_) (fun g3 => ?_)
      · ((conv=>whnf);repeat((first|refine Ct ‹_› ?_|refine Cf ‹_› ?_|refine Ct rfl ?_|refine Cf rfl ?_|refine Bi rfl ?_|refine Bz rfl ?_|refine Lr ?_);conv=>whnf))
        rw [← h3, zS, g2, g3]
        exact ⟨rfl, rfl, rfl⟩
      · ((conv=>whnf);repeat((first|refine Ct ‹_› ?_|refine Cf ‹_› ?_|refine Ct rfl ?_|refine Cf rfl ?_|refine Bi rfl ?_|refine Bz rfl ?_|refine Lr ?_);conv=>whnf))
        rw [zS, g2, g3] at h3
        refine ⟨n - 1, t + 1, ?_, by omega, by omega, by omega, h3⟩
        rw [wrapI (by omega)]; rfl
    · ((conv=>whnf);repeat((first|refine Ct ‹_› ?_|refine Cf ‹_› ?_|refine Ct rfl ?_|refine Cf rfl ?_|refine Bi rfl ?_|refine Bz rfl ?_|refine Lr ?_);conv=>whnf))
      rw [zS, g2] at h3
      refine ⟨n - 1, t + 1, ?_, by omega, by omega, by omega, h3⟩
      rw [wrapI (by omega)]; rfl
  · have ht := of_decide_eq_false g
    rw [show t.toNat = s.un.length by omega, List.drop_length] at h3
    ((conv=>whnf);repeat((first|refine Ct ‹_› ?_|refine Cf ‹_› ?_|refine Ct rfl ?_|refine Cf rfl ?_|refine Bi rfl ?_|refine Bz rfl ?_|refine Lr ?_);conv=>whnf))
    rw [← h3]
    exact ⟨rfl, rfl, rfl⟩

noncomputable def inzR (b : Brd) (s : Stt) (side i : Int) : Bool × Bool :=
  if okHex b s i = true then if In side 0 1 = true then (zn b s side i, true) else (false, false) else (false, false)

theorem F_InZone (b : Brd) (ho : b.Ok) (s : Stt) (hs : s.Ok) (side i : Int) :
    Fun E0 15 [.agg b.cs, .agg s.cs, vI side, vI i] [] (.tup [vB (inzR b s side i).1, vB (inzR b s side i).2]) [] [] := by
  refine Fun_of_xc k15 rfl rfl (fun k q h => by cases h) ?_
  ((conv=>whnf);repeat((first|refine Ct ‹_› ?_|refine Cf ‹_› ?_|refine Ct rfl ?_|refine Cf rfl ?_|refine Bi rfl ?_|refine Bz rfl ?_|refine Lr ?_);conv=>whnf))
  (refine CallQ_some (F_sHex b ho s hs i) ?_ ?_ ?_; rfl; rfl); ((conv=>whnf);repeat((first|refine Ct ‹_› ?_|refine Cf ‹_› ?_|refine Ct rfl ?_|refine Cf rfl ?_|refine Bi rfl ?_|refine Bz rfl ?_|refine Lr ?_);conv=>whnf))
  refine Cnd_i (fun g => ?_) (fun g => ?_)
  · have e0 : okHex b s i = false := by simpa using g
    ((conv=>whnf);repeat((first|refine Ct ‹_› ?_|refine Cf ‹_› ?_|refine Ct rfl ?_|refine Cf rfl ?_|refine Bi rfl ?_|refine Bz rfl ?_|refine Lr ?_);conv=>whnf))
    rw [inzR, e0]
    exact ⟨rfl, rfl, rfl⟩
  have e0 : okHex b s i = true := by simpa using g
  obtain ⟨h, hi⟩ := StOk.of_hex ho e0
  ((conv=>whnf);repeat((first|refine Ct ‹_› ?_|refine Cf ‹_› ?_|refine Ct rfl ?_|refine Cf rfl ?_|refine Bi rfl ?_|refine Bz rfl ?_|refine Lr ?_);conv=>whnf))
  (refine CallQ_some (F_l1In _ _ _) ?_ ?_ ?_; rfl; rfl); ((conv=>whnf);repeat((first|refine Ct ‹_› ?_|refine Cf ‹_› ?_|refine Ct rfl ?_|refine Cf rfl ?_|refine Bi rfl ?_|refine Bz rfl ?_|refine Lr ?_);conv=>whnf))
  refine Cnd_i (fun g => ?_) (fun g => ?_)
  · have e1 : In side 0 1 = false := by simpa using g
    ((conv=>whnf);repeat((first|refine Ct ‹_› ?_|refine Cf ‹_› ?_|refine Ct rfl ?_|refine Cf rfl ?_|refine Bi rfl ?_|refine Bz rfl ?_|refine Lr ?_);conv=>whnf))
    rw [inzR, e0, e1]
    exact ⟨rfl, rfl, rfl⟩
  have e1 : In side 0 1 = true := by simpa using g
  ((conv=>whnf);repeat((first|refine Ct ‹_› ?_|refine Cf ‹_› ?_|refine Ct rfl ?_|refine Cf rfl ?_|refine Bi rfl ?_|refine Bz rfl ?_|refine Lr ?_);conv=>whnf))
  (refine CallQ_some (F_zIn b s h i side hi.1 hi.2) ?_ ?_ ?_; rfl; rfl); ((conv=>whnf);repeat((first|refine Ct ‹_› ?_|refine Cf ‹_› ?_|refine Ct rfl ?_|refine Cf rfl ?_|refine Bi rfl ?_|refine Bz rfl ?_|refine Lr ?_);conv=>whnf))
  rw [inzR, e0, e1]
  exact ⟨rfl, rfl, rfl⟩

theorem F_InZoneI (b : Brd) (ho : b.Ok) (s : Stt) (hs : s.Ok) (side i : Int) :
    Fun E0 17 [.agg b.cs, .agg s.cs, vI side, vI i] [] (.tup [vB (inzR b s side i).1, vB (inzR b s side i).2]) [] [] := by
  refine Fun_of_xc k17 rfl rfl (fun k q h => by cases h) ?_
  ((conv=>whnf);repeat((first|refine Ct ‹_› ?_|refine Cf ‹_› ?_|refine Ct rfl ?_|refine Cf rfl ?_|refine Bi rfl ?_|refine Bz rfl ?_|refine Lr ?_);conv=>whnf))
  (refine CallQ_some (F_hasHex b ho s hs i) ?_ ?_ ?_; rfl; rfl); ((conv=>whnf);repeat((first|refine Ct ‹_› ?_|refine Cf ‹_› ?_|refine Ct rfl ?_|refine Cf rfl ?_|refine Bi rfl ?_|refine Bz rfl ?_|refine Lr ?_);conv=>whnf))
  refine Cnd_i (fun g => ?_) (fun g => ?_)
  · have e0 : okHex b s i = false := by simpa using g
    ((conv=>whnf);repeat((first|refine Ct ‹_› ?_|refine Cf ‹_› ?_|refine Ct rfl ?_|refine Cf rfl ?_|refine Bi rfl ?_|refine Bz rfl ?_|refine Lr ?_);conv=>whnf))
    rw [inzR, e0]
    exact ⟨rfl, rfl, rfl⟩
  have e0 : okHex b s i = true := by simpa using g
  obtain ⟨h, hi⟩ := StOk.of_hex ho e0
  ((conv=>whnf);repeat((first|refine Ct ‹_› ?_|refine Cf ‹_› ?_|refine Ct rfl ?_|refine Cf rfl ?_|refine Bi rfl ?_|refine Bz rfl ?_|refine Lr ?_);conv=>whnf))
  (refine CallQ_some (F_isSide _) ?_ ?_ ?_; rfl; rfl); ((conv=>whnf);repeat((first|refine Ct ‹_› ?_|refine Cf ‹_› ?_|refine Ct rfl ?_|refine Cf rfl ?_|refine Bi rfl ?_|refine Bz rfl ?_|refine Lr ?_);conv=>whnf))
  refine Cnd_i (fun g => ?_) (fun g => ?_)
  · have e1 : In side 0 1 = false := by simpa using g
    ((conv=>whnf);repeat((first|refine Ct ‹_› ?_|refine Cf ‹_› ?_|refine Ct rfl ?_|refine Cf rfl ?_|refine Bi rfl ?_|refine Bz rfl ?_|refine Lr ?_);conv=>whnf))
    rw [inzR, e0, e1]
    exact ⟨rfl, rfl, rfl⟩
  have e1 : In side 0 1 = true := by simpa using g
  ((conv=>whnf);repeat((first|refine Ct ‹_› ?_|refine Cf ‹_› ?_|refine Ct rfl ?_|refine Cf rfl ?_|refine Bi rfl ?_|refine Bz rfl ?_|refine Lr ?_);conv=>whnf))
  (refine CallQ_some (F_inZone b s h side i hi.1 hi.2) ?_ ?_ ?_; rfl; rfl); ((conv=>whnf);repeat((first|refine Ct ‹_› ?_|refine Cf ‹_› ?_|refine Ct rfl ?_|refine Cf rfl ?_|refine Bi rfl ?_|refine Bz rfl ?_|refine Lr ?_);conv=>whnf))
  rw [inzR, e0, e1]
  exact ⟨rfl, rfl, rfl⟩

theorem F_FnExactInZone (x0 : Brd) (x1 : Stt) (x2 : Int) (x3 : Int) (o0 : x0.Ok) (o1 : x1.Ok) (o2 : i64 x2) (o3 : i64 x3) :
    Fun E0 4 [.agg x0.cs, .agg x1.cs, vI x2, vI x3] [] (.v (vB true)) [] [] := by
  have hS := F_InZone x0 o0 x1 o1 x2 x3
  have hI := F_InZoneI x0 o0 x1 o1 x2 x3
  revert hS hI
  generalize inzR x0 x1 x2 x3 = RR
  obtain ⟨r0, r1⟩ := RR
  intro hS hI
  dsimp only at hS
  dsimp only at hI
  refine Fun_of_xc k4 rfl rfl (fun k q h => by cases h) ?_
  ((conv=>whnf);repeat((first|refine Ct ‹_› ?_|refine Cf ‹_› ?_|refine Ct rfl ?_|refine Cf rfl ?_|refine Bi rfl ?_|refine Bz rfl ?_|refine Lr ?_);conv=>whnf))
  (refine CallQ_some (F_szBoard x0 o0 1048576 (by omega) (by omega)) ?_ ?_ ?_; rfl; rfl); ((conv=>whnf);repeat((first|refine Ct ‹_› ?_|refine Cf ‹_› ?_|refine Ct rfl ?_|refine Cf rfl ?_|refine Bi rfl ?_|refine Bz rfl ?_|refine Lr ?_);conv=>whnf))
  refine Cnd_i (fun g => ?_) (fun g => ?_)
  · ((conv=>whnf);repeat((first|refine Ct ‹_› ?_|refine Cf ‹_› ?_|refine Ct rfl ?_|refine Cf rfl ?_|refine Bi rfl ?_|refine Bz rfl ?_|refine Lr ?_);conv=>whnf))
    exact ⟨rfl, rfl, rfl⟩
  have sm0 := szB_sm (b := x0) (x := 1048576) (by omega) (by omega) (of_decide_eq_false g)
  have s0 := sm0.1
  have sb0 := sm0.2
  have sc0 := of_decide_eq_false g
  ((conv=>whnf);repeat((first|refine Ct ‹_› ?_|refine Cf ‹_› ?_|refine Ct rfl ?_|refine Cf rfl ?_|refine Bi rfl ?_|refine Bz rfl ?_|refine Lr ?_);conv=>whnf))
  (refine CallQ_some (F_szState x1 o1 (szB x0 1048576) (by omega) (by omega)) ?_ ?_ ?_; rfl; rfl); ((conv=>whnf);repeat((first|refine Ct ‹_› ?_|refine Cf ‹_› ?_|refine Ct rfl ?_|refine Cf rfl ?_|refine Bi rfl ?_|refine Bz rfl ?_|refine Lr ?_);conv=>whnf))
  refine Cnd_i (fun g => ?_) (fun g => ?_)
  · ((conv=>whnf);repeat((first|refine Ct ‹_› ?_|refine Cf ‹_› ?_|refine Ct rfl ?_|refine Cf rfl ?_|refine Bi rfl ?_|refine Bz rfl ?_|refine Lr ?_);conv=>whnf))
    exact ⟨rfl, rfl, rfl⟩
  have sm1 := szSt_sm (s := x1) (x := szB x0 1048576) (by omega) (by omega) (of_decide_eq_false g)
  have s1 := sm1.1
  have sb1 := sm1.2
  have sc1 := of_decide_eq_false g
  ((conv=>whnf);repeat((first|refine Ct ‹_› ?_|refine Cf ‹_› ?_|refine Ct rfl ?_|refine Cf rfl ?_|refine Bi rfl ?_|refine Bz rfl ?_|refine Lr ?_);conv=>whnf))
  (refine CallQ_some (F_toBoard x0 s0) ?_ ?_ ?_; rfl; rfl); ((conv=>whnf);repeat((first|refine Ct ‹_› ?_|refine Cf ‹_› ?_|refine Ct rfl ?_|refine Cf rfl ?_|refine Bi rfl ?_|refine Bz rfl ?_|refine Lr ?_);conv=>whnf))
  (refine CallQ_some (F_toState x1 s1) ?_ ?_ ?_; rfl; rfl); ((conv=>whnf);repeat((first|refine Ct ‹_› ?_|refine Cf ‹_› ?_|refine Ct rfl ?_|refine Cf rfl ?_|refine Bi rfl ?_|refine Bz rfl ?_|refine Lr ?_);conv=>whnf))
  refine CallQ_eq (snapBS x0 x1 _) ?_
  (refine CallQ_some (hS) ?_ ?_ ?_; rfl; rfl); ((conv=>whnf);repeat((first|refine Ct ‹_› ?_|refine Cf ‹_› ?_|refine Ct rfl ?_|refine Cf rfl ?_|refine Bi rfl ?_|refine Bz rfl ?_|refine Lr ?_);conv=>whnf))
  (refine CallQ_some (F_toBoard x0 s0) ?_ ?_ ?_; rfl; rfl); ((conv=>whnf);repeat((first|refine Ct ‹_› ?_|refine Cf ‹_› ?_|refine Ct rfl ?_|refine Cf rfl ?_|refine Bi rfl ?_|refine Bz rfl ?_|refine Lr ?_);conv=>whnf))
  (refine CallQ_some (F_toState x1 s1) ?_ ?_ ?_; rfl; rfl); ((conv=>whnf);repeat((first|refine Ct ‹_› ?_|refine Cf ‹_› ?_|refine Ct rfl ?_|refine Cf rfl ?_|refine Bi rfl ?_|refine Bz rfl ?_|refine Lr ?_);conv=>whnf))
  refine CallQ_eq (snapBS x0 x1 _) ?_
  (refine CallQ_some (hI) ?_ ?_ ?_; rfl; rfl); ((conv=>whnf);repeat((first|refine Ct ‹_› ?_|refine Cf ‹_› ?_|refine Ct rfl ?_|refine Cf rfl ?_|refine Bi rfl ?_|refine Bz rfl ?_|refine Lr ?_);conv=>whnf))
  repeat (refine Cnd_f (by simp) ?_; ((conv=>whnf);repeat((first|refine Ct ‹_› ?_|refine Cf ‹_› ?_|refine Ct rfl ?_|refine Cf rfl ?_|refine Bi rfl ?_|refine Bz rfl ?_|refine Lr ?_);conv=>whnf)))
  repeat (refine Cnd_f (by simp) ?_; ((conv=>whnf);repeat((first|refine Ct ‹_› ?_|refine Cf ‹_› ?_|refine Ct rfl ?_|refine Cf rfl ?_|refine Bi rfl ?_|refine Bz rfl ?_|refine Lr ?_);conv=>whnf)))
  repeat (refine Cnd_f (by simp) ?_; ((conv=>whnf);repeat((first|refine Ct ‹_› ?_|refine Cf ‹_› ?_|refine Ct rfl ?_|refine Cf rfl ?_|refine Bi rfl ?_|refine Bz rfl ?_|refine Lr ?_);conv=>whnf)))
  (refine CallQ_some (F_toBoard x0 s0) ?_ ?_ ?_; rfl; rfl); ((conv=>whnf);repeat((first|refine Ct ‹_› ?_|refine Cf ‹_› ?_|refine Ct rfl ?_|refine Cf rfl ?_|refine Bi rfl ?_|refine Bz rfl ?_|refine Lr ?_);conv=>whnf))
  refine CallQ_eq (snapBB x0) ?_
  (refine CallQ_some (F_eqBoard x0 s0) ?_ ?_ ?_; rfl; rfl); ((conv=>whnf);repeat((first|refine Ct ‹_› ?_|refine Cf ‹_› ?_|refine Ct rfl ?_|refine Cf rfl ?_|refine Bi rfl ?_|refine Bz rfl ?_|refine Lr ?_);conv=>whnf))
  (refine CallQ_some (F_toState x1 s1) ?_ ?_ ?_; rfl; rfl); ((conv=>whnf);repeat((first|refine Ct ‹_› ?_|refine Cf ‹_› ?_|refine Ct rfl ?_|refine Cf rfl ?_|refine Bi rfl ?_|refine Bz rfl ?_|refine Lr ?_);conv=>whnf))
  refine CallQ_eq (snapSS x1) ?_
  (refine CallQ_some (F_eqState x1 s1) ?_ ?_ ?_; rfl; rfl); ((conv=>whnf);repeat((first|refine Ct ‹_› ?_|refine Cf ‹_› ?_|refine Ct rfl ?_|refine Cf rfl ?_|refine Bi rfl ?_|refine Bz rfl ?_|refine Lr ?_);conv=>whnf))
  exact ⟨rfl, rfl, rfl⟩
end Go.Proofs.YteemoapfkgkngaaGreatDoor.Ab
