/- Contracts of the functions that FnExactCheckSupplyPath reaches, by the abstract machine (part 2).
   Conditions: none. -/
import Derived.Test.YtjnpnpkjmlihdaaGreatDoorCCheckSupplyPath1
set_option linter.unusedVariables false
set_option linter.unusedSimpArgs false
namespace Go.Proofs.YtjnpnpkjmlihdaaGreatDoor.Ab
open Go Go.RowKit
attribute [local irreducible] Cnd Bnd Rw CallQ CallR Bts Isn Lc WLoop
set_option maxRecDepth 100000
set_option maxHeartbeats 1000000
theorem F_zExerts (b : Brd) (s : Stt) (h : StOk b s) (t i : Int) (t0 : 0 ≤ t) (t1 : t < s.un.length) (i0 : 0 ≤ i) (i1 : i < b.m.ter.length) :
    Fun E0 77 [.agg b.cs, .agg s.cs, vI t, vI i] [] (.v (vB (zx b (s.un.getD t.toNat Unt.d) i))) [] [] := by
  have hU := h.un _ (getD_memT (d := Unt.d) t0 t1)
  have hk := hU.kind
  have hm := h.gb.wh.mul
  have hn := h.gb.n
  refine Fun_of_xc k77 rfl rfl (fun k q h => by cases h) ?_
  ((conv=>whnf);repeat((first|refine Ct ‹_› ?_|refine Cf ‹_› ?_|refine Ct rfl ?_|refine Cf rfl ?_|refine Bi rfl ?_|refine Bz rfl ?_|refine Lr ?_);conv=>whnf))
  refine Bnd_i (⟨t0, t1⟩) ?_; ((conv=>whnf);repeat((first|refine Ct ‹_› ?_|refine Cf ‹_› ?_|refine Ct rfl ?_|refine Cf rfl ?_|refine Bi rfl ?_|refine Bz rfl ?_|refine Lr ?_);conv=>whnf))
  refine Cnd_i (fun g1 => ?_) (fun g1 => ?_)
  · ((conv=>whnf);repeat((first|refine Ct ‹_› ?_|refine Cf ‹_› ?_|refine Ct rfl ?_|refine Cf rfl ?_|refine Bi rfl ?_|refine Bz rfl ?_|refine Lr ?_);conv=>whnf))
    rw [zx, if_pos g1]
    exact ⟨rfl, rfl, rfl⟩
  have e1 : ¬ decide ((s.un.getD t.toNat Unt.d).at' < 0) = true := by rw [g1]; simp
  have ha := of_decide_eq_false g1
  have hat : 0 ≤ (s.un.getD t.toNat Unt.d).at' ∧ (s.un.getD t.toNat Unt.d).at' < b.m.ter.length := by have := hU.at'; omega
  ((conv=>whnf);repeat((first|refine Ct ‹_› ?_|refine Cf ‹_› ?_|refine Ct rfl ?_|refine Cf rfl ?_|refine Bi rfl ?_|refine Bz rfl ?_|refine Lr ?_);conv=>whnf))
  refine Bnd_i (⟨hk.1, hk.2⟩) ?_; ((conv=>whnf);repeat((first|refine Ct ‹_› ?_|refine Cf ‹_› ?_|refine Ct rfl ?_|refine Cf rfl ?_|refine Bi rfl ?_|refine Bz rfl ?_|refine Lr ?_);conv=>whnf))
  refine Cnd_i (fun g2 => ?_) (fun g2 => ?_)
  · ((conv=>whnf);repeat((first|refine Ct ‹_› ?_|refine Cf ‹_› ?_|refine Ct rfl ?_|refine Cf rfl ?_|refine Bi rfl ?_|refine Bz rfl ?_|refine Lr ?_);conv=>whnf))
    have e2 : (b.r.knd.getD (s.un.getD t.toNat Unt.d).kind.toNat Knd.d).zone = false := by rwa [Bool.not_eq_true'] at g2
    rw [zx, if_neg e1, e2]
    exact ⟨rfl, rfl, rfl⟩
  have e2 : (b.r.knd.getD (s.un.getD t.toNat Unt.d).kind.toNat Knd.d).zone = true := by rwa [Bool.not_eq_false'] at g2
  ((conv=>whnf);repeat((first|refine Ct ‹_› ?_|refine Cf ‹_› ?_|refine Ct rfl ?_|refine Cf rfl ?_|refine Bi rfl ?_|refine Bz rfl ?_|refine Lr ?_);conv=>whnf))
  (refine CallQ_some (F_bCost b h.gb (s.un.getD t.toNat Unt.d).kind i i0 i1 hk.1 hk.2) ?_ ?_ ?_; rfl; rfl); ((conv=>whnf);repeat((first|refine Ct ‹_› ?_|refine Cf ‹_› ?_|refine Ct rfl ?_|refine Cf rfl ?_|refine Bi rfl ?_|refine Bz rfl ?_|refine Lr ?_);conv=>whnf))
  refine Cnd_i (fun g3 => ?_) (fun g3 => ?_)
  · ((conv=>whnf);repeat((first|refine Ct ‹_› ?_|refine Cf ‹_› ?_|refine Ct rfl ?_|refine Cf rfl ?_|refine Bi rfl ?_|refine Bz rfl ?_|refine Lr ?_);conv=>whnf))
    rw [zx, if_neg e1, if_pos e2, if_pos g3]
    exact ⟨rfl, rfl, rfl⟩
  ((conv=>whnf);repeat((first|refine Ct ‹_› ?_|refine Cf ‹_› ?_|refine Ct rfl ?_|refine Cf rfl ?_|refine Bi rfl ?_|refine Bz rfl ?_|refine Lr ?_);conv=>whnf))
  rw [zx, if_neg e1, if_pos e2, if_neg (by rw [g3]; simp)]
  generalize s.un.getD t.toNat Unt.d = u at hat hk ⊢
  refine WLoop_v ⟨[3, 4, 9, 10], [4, 9], []⟩ (fun (d : Int) => hdS 65 [(3, .v (vI i)), (4, .v (.one (.box 4 0))), (9, .v (.one (.box 9 0))), (10, .v (vI d))] [(4, b.cs), (9, u.cs)] [])
    (fun n d => 0 ≤ d ∧ d + n = 6 ∧ zDir b.m u.at' i n d = zDir b.m u.at' i 6 0) 6 0 rfl ⟨by omega, by omega, rfl⟩ ?_
  rintro n d ⟨h1, h2, h3⟩
  ((conv=>whnf);repeat((first|refine Ct ‹_› ?_|refine Cf ‹_› ?_|refine Ct rfl ?_|refine Cf rfl ?_|refine Bi rfl ?_|refine Bz rfl ?_|refine Lr ?_);conv=>whnf))
  refine Cnd_i (fun g => ?_) (fun g => ?_)
  · have hd := of_decide_eq_true g
    obtain ⟨n, rfl⟩ : ∃ n', n = n' + 1 := ⟨n - 1, by omega⟩
    rw [zDir] at h3
    ((conv=>whnf);repeat((first|refine Ct ‹_› ?_|refine Cf ‹_› ?_|refine Ct rfl ?_|refine Cf rfl ?_|refine Bi rfl ?_|refine Bz rfl ?_|refine Lr ?_);conv=>whnf))
    (refine CallQ_some (F_mNext b.m h.gb.wh u.at' d hat.1 (by omega) h1 (by omega)) ?_ ?_ ?_; rfl; rfl); ((conv=>whnf);repeat((first|refine Ct ‹_› ?_|refine Cf ‹_› ?_|refine Ct rfl ?_|refine Cf rfl ?_|refine Bi rfl ?_|refine Bz rfl ?_|refine Lr ?_);conv=>whnf))
    refine Cnd_i (fun g4 => ?_) (fun g4 => ?_)
    · rw [if_pos g4] at h3
      ((conv=>whnf);repeat((first|refine Ct ‹_› ?_|refine Cf ‹_› ?_|refine Ct rfl ?_|refine Cf rfl ?_|refine Bi rfl ?_|refine Bz rfl ?_|refine Lr ?_);conv=>whnf))
      (refine CallQ_some (F_mRiver b.m h.gb.wh h.gb.ok.m u.at' d hat.1 (by omega) h1 (by omega)) ?_ ?_ ?_; rfl; rfl); ((conv=>whnf);repeat((first|refine Ct ‹_› ?_|refine Cf ‹_› ?_|refine Ct rfl ?_|refine Cf rfl ?_|refine Bi rfl ?_|refine Bz rfl ?_|refine Lr ?_);conv=>whnf))
      refine Cnd_i (fun g5 => ?_) (fun g5 => ?_)
      · ((conv=>whnf);repeat((first|refine Ct ‹_› ?_|refine Cf ‹_› ?_|refine Ct rfl ?_|refine Cf rfl ?_|refine Bi rfl ?_|refine Bz rfl ?_|refine Lr ?_);conv=>whnf))
        rw [← h3, g5]
        exact ⟨rfl, rfl, rfl⟩
      · ((conv=>whnf);repeat((first|refine Ct ‹_› ?_|refine Cf ‹_› ?_|refine Ct rfl ?_|refine Cf rfl ?_|refine Bi rfl ?_|refine Bz rfl ?_|refine Lr ?_);conv=>whnf))
        (refine CallQ_some (F_mRoad b.m h.gb.wh h.gb.ok.m u.at' d hat.1 (by omega) h1 (by omega)) ?_ ?_ ?_; rfl; rfl); ((conv=>whnf);repeat((first|refine Ct ‹_› ?_|refine Cf ‹_› ?_|refine Ct rfl ?_|refine Cf rfl ?_|refine Bi rfl ?_|refine Bz rfl ?_|refine Lr ?_);conv=>whnf))
        rw [← h3, g5]
        exact ⟨rfl, rfl, rfl⟩
    · rw [if_neg (by rw [g4]; simp)] at h3
      ((conv=>whnf);repeat((first|refine Ct ‹_› ?_|refine Cf ‹_› ?_|refine Ct rfl ?_|refine Cf rfl ?_|refine Bi rfl ?_|refine Bz rfl ?_|refine Lr ?_);conv=>whnf))
      refine ⟨n, d + 1, ?_, by omega, by omega, by omega, h3⟩
      rw [wrapI (by omega)]; rfl
  · have hd := of_decide_eq_false g
    obtain rfl : n = 0 := by omega
    rw [zDir] at h3
    ((conv=>whnf);repeat((first|refine Ct ‹_› ?_|refine Cf ‹_› ?_|refine Ct rfl ?_|refine Cf rfl ?_|refine Bi rfl ?_|refine Bz rfl ?_|refine Lr ?_);conv=>whnf))
    rw [← h3]
    exact ⟨rfl, rfl, rfl⟩

theorem F_crossesFreely (m : Map) (ho : m.Ok) (e : Int) : Fun E0 84 [.agg m.cs, vI e] [] (.v (vB (!(m.riv.contains e) || m.roa.contains e))) [] [] := by
  refine Fun_of_xc k84 rfl rfl (fun k q h => by cases h) ?_
  ((conv=>whnf);repeat((first|refine Ct ‹_› ?_|refine Cf ‹_› ?_|refine Ct rfl ?_|refine Cf rfl ?_|refine Bi rfl ?_|refine Bz rfl ?_|refine Lr ?_);conv=>whnf))
  (refine CallQ_some (F_Contains _ _ ho.riv.len) ?_ ?_ ?_; rfl; rfl); ((conv=>whnf);repeat((first|refine Ct ‹_› ?_|refine Cf ‹_› ?_|refine Ct rfl ?_|refine Cf rfl ?_|refine Bi rfl ?_|refine Bz rfl ?_|refine Lr ?_);conv=>whnf))
  refine Cnd_i (fun g5 => ?_) (fun g5 => ?_)
  · ((conv=>whnf);repeat((first|refine Ct ‹_› ?_|refine Cf ‹_› ?_|refine Ct rfl ?_|refine Cf rfl ?_|refine Bi rfl ?_|refine Bz rfl ?_|refine Lr ?_);conv=>whnf))
    rw [g5]
    exact ⟨rfl, rfl, rfl⟩
  · ((conv=>whnf);repeat((first|refine Ct ‹_› ?_|refine Cf ‹_› ?_|refine Ct rfl ?_|refine Cf rfl ?_|refine Bi rfl ?_|refine Bz rfl ?_|refine Lr ?_);conv=>whnf))
    (refine CallQ_some (F_Contains _ _ ho.roa.len) ?_ ?_ ?_; rfl; rfl); ((conv=>whnf);repeat((first|refine Ct ‹_› ?_|refine Cf ‹_› ?_|refine Ct rfl ?_|refine Cf rfl ?_|refine Bi rfl ?_|refine Bz rfl ?_|refine Lr ?_);conv=>whnf))
    rw [g5]
    exact ⟨rfl, rfl, rfl⟩

theorem F_controls (b : Brd) (h : GB b) (u : Unt) (hU : UnOk b u) (i : Int) (i0 : 0 ≤ i) (i1 : i < b.m.ter.length) :
    Fun E0 41 [.agg b.cs, .agg u.cs, vI i] [] (.v (vB (zx b u i))) [] [] := by
  have hk := hU.kind
  have hm := h.wh.mul
  have hn := h.n
  refine Fun_of_xc k41 rfl rfl (fun k q h => by cases h) ?_
  ((conv=>whnf);repeat((first|refine Ct ‹_› ?_|refine Cf ‹_› ?_|refine Ct rfl ?_|refine Cf rfl ?_|refine Bi rfl ?_|refine Bz rfl ?_|refine Lr ?_);conv=>whnf))
  refine Cnd_i (fun g1 => ?_) (fun g1 => ?_)
  · ((conv=>whnf);repeat((first|refine Ct ‹_› ?_|refine Cf ‹_› ?_|refine Ct rfl ?_|refine Cf rfl ?_|refine Bi rfl ?_|refine Bz rfl ?_|refine Lr ?_);conv=>whnf))
    rw [zx, if_pos g1]
    exact ⟨rfl, rfl, rfl⟩
  have e1 : ¬ decide (u.at' < 0) = true := by rw [g1]; simp
  have ha := of_decide_eq_false g1
  have hat : 0 ≤ u.at' ∧ u.at' < b.m.ter.length := by have := hU.at'; omega
  ((conv=>whnf);repeat((first|refine Ct ‹_› ?_|refine Cf ‹_› ?_|refine Ct rfl ?_|refine Cf rfl ?_|refine Bi rfl ?_|refine Bz rfl ?_|refine Lr ?_);conv=>whnf))
  refine Bnd_i (⟨hk.1, hk.2⟩) ?_; ((conv=>whnf);repeat((first|refine Ct ‹_› ?_|refine Cf ‹_› ?_|refine Ct rfl ?_|refine Cf rfl ?_|refine Bi rfl ?_|refine Bz rfl ?_|refine Lr ?_);conv=>whnf))
  refine Cnd_i (fun g2 => ?_) (fun g2 => ?_)
  · ((conv=>whnf);repeat((first|refine Ct ‹_› ?_|refine Cf ‹_› ?_|refine Ct rfl ?_|refine Cf rfl ?_|refine Bi rfl ?_|refine Bz rfl ?_|refine Lr ?_);conv=>whnf))
    have e2 : (b.r.knd.getD u.kind.toNat Knd.d).zone = false := by rwa [Bool.not_eq_true'] at g2
    rw [zx, if_neg e1, e2]
    exact ⟨rfl, rfl, rfl⟩
  have e2 : (b.r.knd.getD u.kind.toNat Knd.d).zone = true := by rwa [Bool.not_eq_false'] at g2
  ((conv=>whnf);repeat((first|refine Ct ‹_› ?_|refine Cf ‹_› ?_|refine Ct rfl ?_|refine Cf rfl ?_|refine Bi rfl ?_|refine Bz rfl ?_|refine Lr ?_);conv=>whnf))
  (refine CallQ_some (F_enterCost b h u.kind i i0 i1 hk.1 hk.2) ?_ ?_ ?_; rfl; rfl); ((conv=>whnf);repeat((first|refine Ct ‹_› ?_|refine Cf ‹_› ?_|refine Ct rfl ?_|refine Cf rfl ?_|refine Bi rfl ?_|refine Bz rfl ?_|refine Lr ?_);conv=>whnf))
  refine Cnd_i (fun g3 => ?_) (fun g3 => ?_)
  · ((conv=>whnf);repeat((first|refine Ct ‹_› ?_|refine Cf ‹_› ?_|refine Ct rfl ?_|refine Cf rfl ?_|refine Bi rfl ?_|refine Bz rfl ?_|refine Lr ?_);conv=>whnf))
    rw [zx, if_neg e1, if_pos e2, if_pos g3]
    exact ⟨rfl, rfl, rfl⟩
  ((conv=>whnf);repeat((first|refine Ct ‹_› ?_|refine Cf ‹_› ?_|refine Ct rfl ?_|refine Cf rfl ?_|refine Bi rfl ?_|refine Bz rfl ?_|refine Lr ?_);conv=>whnf))
  rw [zx, if_neg e1, if_pos e2, if_neg (by rw [g3]; simp)]
  refine WLoop_v ⟨[2, 3, 4, 30], [3, 4], []⟩ (fun (d : Int) => hdS 51 [(2, .v (vI i)), (3, .v (.one (.box 3 0))), (4, .v (.one (.box 4 0))), (30, .v (vI d))] [(3, b.cs), (4, u.cs)] [])
    (fun n d => 0 ≤ d ∧ d + n = 6 ∧ zDir b.m u.at' i n d = zDir b.m u.at' i 6 0) 6 0 rfl ⟨by omega, by omega, rfl⟩ ?_
  rintro n d ⟨h1, h2, h3⟩
  ((conv=>whnf);repeat((first|refine Ct ‹_› ?_|refine Cf ‹_› ?_|refine Ct rfl ?_|refine Cf rfl ?_|refine Bi rfl ?_|refine Bz rfl ?_|refine Lr ?_);conv=>whnf))
  refine Cnd_i (fun g => ?_) (fun g => ?_)
  · have hd := of_decide_eq_true g
    obtain ⟨n, rfl⟩ : ∃ n', n = n' + 1 := ⟨n - 1, by omega⟩
    rw [zDir] at h3
    ((conv=>whnf);repeat((first|refine Ct ‹_› ?_|refine Cf ‹_› ?_|refine Ct rfl ?_|refine Cf rfl ?_|refine Bi rfl ?_|refine Bz rfl ?_|refine Lr ?_);conv=>whnf))
    (refine CallQ_some (F_nextTo b.m h.wh u.at' d hat.1 (by omega) h1 (by omega)) ?_ ?_ ?_; rfl; rfl); ((conv=>whnf);repeat((first|refine Ct ‹_› ?_|refine Cf ‹_› ?_|refine Ct rfl ?_|refine Cf rfl ?_|refine Bi rfl ?_|refine Bz rfl ?_|refine Lr ?_);conv=>whnf))
    refine Cnd_i (fun g4 => ?_) (fun g4 => ?_)
    · rw [if_pos g4] at h3
      have e4 : nx b.m u.at' d = i := by simpa using g4
      ((conv=>whnf);repeat((first|refine Ct ‹_› ?_|refine Cf ‹_› ?_|refine Ct rfl ?_|refine Cf rfl ?_|refine Bi rfl ?_|refine Bz rfl ?_|refine Lr ?_);conv=>whnf))
      (refine CallQ_some (F_edgeOf b.m h.wh u.at' d hat.1 (by omega) h1 (by omega) (by omega)) ?_ ?_ ?_; rfl; rfl); ((conv=>whnf);repeat((first|refine Ct ‹_› ?_|refine Cf ‹_› ?_|refine Ct rfl ?_|refine Cf rfl ?_|refine Bi rfl ?_|refine Bz rfl ?_|refine Lr ?_);conv=>whnf))
      (refine CallQ_some (F_crossesFreely b.m h.ok.m _) ?_ ?_ ?_; rfl; rfl); ((conv=>whnf);repeat((first|refine Ct ‹_› ?_|refine Cf ‹_› ?_|refine Ct rfl ?_|refine Cf rfl ?_|refine Bi rfl ?_|refine Bz rfl ?_|refine Lr ?_);conv=>whnf))
      rw [← h3]
      exact ⟨rfl, rfl, rfl⟩
    · rw [if_neg (by rw [g4]; simp)] at h3
      ((conv=>whnf);repeat((first|refine Ct ‹_› ?_|refine Cf ‹_› ?_|refine Ct rfl ?_|refine Cf rfl ?_|refine Bi rfl ?_|refine Bz rfl ?_|refine Lr ?_);conv=>whnf))
      refine ⟨n, d + 1, ?_, by omega, by omega, by omega, h3⟩
      rw [wrapI (by omega)]; rfl
  · have hd := of_decide_eq_false g
    obtain rfl : n = 0 := by omega
    rw [zDir] at h3
    ((conv=>whnf);repeat((first|refine Ct ‹_› ?_|refine Cf ‹_› ?_|refine Ct rfl ?_|refine Cf rfl ?_|refine Bi rfl ?_|refine Bz rfl ?_|refine Lr ?_);conv=>whnf))
    rw [← h3]
    exact ⟨rfl, rfl, rfl⟩

def zS (b : Brd) (side i : Int) (u : Unt) : Bool := u.side == side && zx b u i

def zn (b : Brd) (s : Stt) (side i : Int) : Bool := s.un.any (zS b side i)

theorem F_zSources (b : Brd) (s : Stt) (h : StOk b s) (side i : Int) (i0 : 0 ≤ i) (i1 : i < b.m.ter.length) :
    Fun E0 35 [.agg b.cs, .agg s.cs, vI side, vI i] [] (.v (.one (.own 0 (selU (zS b side i) s.un s.un.length).length))) [(0, rwI (selU (zS b side i) s.un s.un.length))] [] := by
  have hl := h.len
  refine Fun_of_xc k35 rfl rfl (nrC (rwI_no _) nrN) ?_
  ((conv=>whnf);repeat((first|refine Ct ‹_› ?_|refine Cf ‹_› ?_|refine Ct rfl ?_|refine Cf rfl ?_|refine Bi rfl ?_|refine Bz rfl ?_|refine Lr ?_);conv=>whnf))
  refine Rw_i (rwI []) (rwI_nil _) ?_
  ((conv=>whnf);repeat((first|refine Ct ‹_› ?_|refine Cf ‹_› ?_|refine Ct rfl ?_|refine Cf rfl ?_|refine Bi rfl ?_|refine Bz rfl ?_|refine Lr ?_);conv=>whnf))
  refine Rw_i (rwI []) (rwI_nil _) ?_
  ((conv=>whnf);repeat((first|refine Ct ‹_› ?_|refine Cf ‹_› ?_|refine Ct rfl ?_|refine Cf rfl ?_|refine Bi rfl ?_|refine Bz rfl ?_|refine Lr ?_);conv=>whnf))
  refine WLoop_v2 ⟨[2, 3, 4, 5, 9, 13, 14, 15], [4, 5], []⟩ (fun (t : Int) (out : List Int) => hdS 37 [(2, .v (vI side)), (3, .v (vI i)), (4, .v (.one (.box 4 0))), (5, .v (.one (.box 5 0))), (9, .v (.one (.own (vkey 9) out.length))), (13, .v (.one (roU s.un))), (14, .v (vI s.un.length)), (15, .v (vI t))] [(4, b.cs), (5, s.cs)] [(vkey 9, rwI out)])
    (fun n t out => 0 ≤ t ∧ t + n = s.un.length ∧ out = selU (zS b side i) s.un t.toNat) s.un.length 0 [] rfl ⟨by omega, by omega, rfl⟩ ?_
  rintro n t out ⟨h1, h2, h3⟩
  have hle := selU_le (zS b side i) s.un t.toNat
  rw [← h3] at hle
  have hnx : selU (zS b side i) s.un (t + 1).toNat = if zS b side i (s.un.getD t.toNat Unt.d) = true then out ++ [t] else out := by
    rw [show (t + 1).toNat = t.toNat + 1 by omega, selU, ← h3, show ((t.toNat : Nat) : Int) = t by omega]
  ((conv=>whnf);repeat((first|refine Ct ‹_› ?_|refine Cf ‹_› ?_|refine Ct rfl ?_|refine Cf rfl ?_|refine Bi rfl ?_|refine Bz rfl ?_|refine Lr ?_);conv=>whnf))
  refine Cnd_i (fun g => ?_) (fun g => ?_)
  · have ht := of_decide_eq_true g
    ((conv=>whnf);repeat((first|refine Ct ‹_› ?_|refine Cf ‹_› ?_|refine Ct rfl ?_|refine Cf rfl ?_|refine Bi rfl ?_|refine Bz rfl ?_|refine Lr ?_);conv=>whnf))
    refine Bnd_i (⟨h1, ht⟩) ?_; ((conv=>whnf);repeat((first|refine Ct ‹_› ?_|refine Cf ‹_› ?_|refine Ct rfl ?_|refine Cf rfl ?_|refine Bi rfl ?_|refine Bz rfl ?_|refine Lr ?_);conv=>whnf))
    refine Cnd_i (fun g2 => ?_) (fun g2 => ?_)
    · ((conv=>whnf);repeat((first|refine Ct ‹_› ?_|refine Cf ‹_› ?_|refine Ct rfl ?_|refine Cf rfl ?_|refine Bi rfl ?_|refine Bz rfl ?_|refine Lr ?_);conv=>whnf))
      (refine CallQ_some (F_zExerts b s h t i h1 ht i0 i1) ?_ ?_ ?_; rfl; rfl); ((conv=>whnf);repeat((first|refine Ct ‹_› ?_|refine Cf ‹_› ?_|refine Ct rfl ?_|refine Cf rfl ?_|refine Bi rfl ?_|refine Bz rfl ?_|refine Lr ?_);conv=>whnf))
      refine Cnd_i (fun g3 => ?_) (fun g3 => ?_)
      · ((conv=>whnf);repeat((first|refine Ct ‹_› ?_|refine Cf ‹_› ?_|refine Ct rfl ?_|refine Cf rfl ?_|refine Bi rfl ?_|refine Bz rfl ?_|refine Lr ?_);conv=>whnf))
        refine Rw_self ?_
        ((conv=>whnf);repeat((first|refine Ct ‹_› ?_|refine Cf ‹_› ?_|refine Ct rfl ?_|refine Cf rfl ?_|refine Bi rfl ?_|refine Bz rfl ?_|refine Lr ?_);conv=>whnf))
        refine Bnd_i ?_ ?_
        · show out.length + 1 < _
          omega
        ((conv=>whnf);repeat((first|refine Ct ‹_› ?_|refine Cf ‹_› ?_|refine Ct rfl ?_|refine Cf rfl ?_|refine Bi rfl ?_|refine Bz rfl ?_|refine Lr ?_);conv=>whnf))
        refine Rw_i (rwI (out ++ [t])) (rwI_app _ _ _ rfl) ?_
        ((conv=>whnf);repeat((first|refine Ct ‹_› ?_|refine Cf ‹_› ?_|refine Ct rfl ?_|refine Cf rfl ?_|refine Bi rfl ?_|refine Bz rfl ?_|refine Lr ?_);conv=>whnf))
        rw [if_pos (by rw [zS, g2, g3]; rfl)] at hnx
        refine ⟨n - 1, t + 1, out ++ [t], ?_, by omega, by omega, by omega, hnx.symm⟩
        rw [wrapI (by omega)]; rfl
      · ((conv=>whnf);repeat((first|refine Ct ‹_› ?_|refine Cf ‹_› ?_|refine Ct rfl ?_|refine Cf rfl ?_|refine Bi rfl ?_|refine Bz rfl ?_|refine Lr ?_);conv=>whnf))
        rw [if_neg (by rw [zS, g2, g3]; simp)] at hnx
        refine ⟨n - 1, t + 1, out, ?_, by omega, by omega, by omega, hnx.symm⟩
        rw [wrapI (by omega)]; rfl
    · ((conv=>whnf);repeat((first|refine Ct ‹_› ?_|refine Cf ‹_› ?_|refine Ct rfl ?_|refine Cf rfl ?_|refine Bi rfl ?_|refine Bz rfl ?_|refine Lr ?_);conv=>whnf))
      rw [if_neg (by rw [zS, g2]; simp)] at hnx
      refine ⟨n - 1, t + 1, out, ?_, by omega, by omega, by omega, hnx.symm⟩
      rw [wrapI (by omega)]; rfl
  · have ht := of_decide_eq_false g
    ((conv=>whnf);repeat((first|refine Ct ‹_› ?_|refine Cf ‹_› ?_|refine Ct rfl ?_|refine Cf rfl ?_|refine Bi rfl ?_|refine Bz rfl ?_|refine Lr ?_);conv=>whnf))
    rw [h3, show t.toNat = s.un.length by omega]
    exact ⟨rfl, rfl, rfl⟩

theorem selU_any (q : Unt → Bool) (us : List Unt) : decide (((selU q us us.length).length : Int) > 0) = us.any q := by
  have key : ∀ n, 0 < (selU q us n).length ↔ ∃ k, k < n ∧ q (us.getD k Unt.d) = true := by
    intro n
    induction n with
    | zero => simp [selU]
    | succ n ih =>
      rw [selU]
      split
      · rename_i e
        refine ⟨fun _ => ⟨n, by omega, e⟩, fun _ => by simp⟩
      · rename_i e
        rw [ih]
        constructor
        · rintro ⟨k, h1, h2⟩; exact ⟨k, by omega, h2⟩
        · rintro ⟨k, h1, h2⟩
          by_cases hk : k = n
          · subst hk; exact absurd h2 e
          · exact ⟨k, by omega, h2⟩
  have k2 : us.any q = true ↔ ∃ k, k < us.length ∧ q (us.getD k Unt.d) = true := by
    rw [List.any_eq_true]
    constructor
    · rintro ⟨x, hx, hq⟩
      obtain ⟨k, hk, rfl⟩ := List.mem_iff_getElem.1 hx
      exact ⟨k, hk, by simpa [hk] using hq⟩
    · rintro ⟨k, hk, hq⟩
      exact ⟨us[k], List.getElem_mem hk, by simpa [hk] using hq⟩
  rw [Bool.eq_iff_iff, decide_eq_true_eq, k2, ← key]
  omega

theorem F_zIn (b : Brd) (s : Stt) (h : StOk b s) (i side : Int) (i0 : 0 ≤ i) (i1 : i < b.m.ter.length) :
    Fun E0 50 [.agg b.cs, .agg s.cs, vI i, vI side] [] (.v (vB (zn b s side i))) [] [] := by
  refine Fun_of_xc k50 rfl rfl (fun k q h => by cases h) ?_
  ((conv=>whnf);repeat((first|refine Ct ‹_› ?_|refine Cf ‹_› ?_|refine Ct rfl ?_|refine Cf rfl ?_|refine Bi rfl ?_|refine Bz rfl ?_|refine Lr ?_);conv=>whnf))
  (refine CallQ_some (F_zSources b s h side i i0 i1) ?_ ?_ ?_; rfl; rfl); ((conv=>whnf);repeat((first|refine Ct ‹_› ?_|refine Cf ‹_› ?_|refine Ct rfl ?_|refine Cf rfl ?_|refine Bi rfl ?_|refine Bz rfl ?_|refine Lr ?_);conv=>whnf))
  rw [zn, ← selU_any]
  exact ⟨rfl, rfl, rfl⟩

theorem F_inZone (b : Brd) (s : Stt) (h : StOk b s) (side i : Int) (i0 : 0 ≤ i) (i1 : i < b.m.ter.length) :
    Fun E0 54 [.agg b.cs, .agg s.cs, vI side, vI i] [] (.v (vB (zn b s side i))) [] [] := by
  have hl := h.len
  refine Fun_of_xc k54 rfl rfl (fun k q h => by cases h) ?_
  ((conv=>whnf);repeat((first|refine Ct ‹_› ?_|refine Cf ‹_› ?_|refine Ct rfl ?_|refine Cf rfl ?_|refine Bi rfl ?_|refine Bz rfl ?_|refine Lr ?_);conv=>whnf))
  refine WLoop_v ⟨[2, 3, 4, 12, 13, 14], [4], []⟩ (fun (t : Int) => hdS 29 [(2, .v (vI side)), (3, .v (vI i)), (4, .v (.one (.box 4 0))), (12, .v (.one (roU s.un))), (13, .v (vI s.un.length)), (14, .v (vI t))] [(4, b.cs)] [])
    (fun n t => 0 ≤ t ∧ t + n = s.un.length ∧ (s.un.drop t.toNat).any (zS b side i) = zn b s side i) s.un.length 0 rfl ⟨by omega, by omega, rfl⟩ ?_
  rintro n t ⟨h1, h2, h3⟩
  ((conv=>whnf);repeat((first|refine Ct ‹_› ?_|refine Cf ‹_› ?_|refine Ct rfl ?_|refine Cf rfl ?_|refine Bi rfl ?_|refine Bz rfl ?_|refine Lr ?_);conv=>whnf))
  refine Cnd_i (fun g => ?_) (fun g => ?_)
  · have ht := of_decide_eq_true g
    have hU := h.un _ (getD_memT (d := Unt.d) h1 ht)
    rw [drop_cons (d := Unt.d) h1 ht, List.any_cons] at h3
    ((conv=>whnf);repeat((first|refine Ct ‹_› ?_|refine Cf ‹_› ?_|refine Ct rfl ?_|refine Cf rfl ?_|refine Bi rfl ?_|refine Bz rfl ?_|refine Lr ?_);conv=>whnf))
    refine Bnd_i (⟨h1, ht⟩) ?_; ((conv=>whnf);repeat((first|refine Ct ‹_› ?_|refine Cf ‹_› ?_|refine Ct rfl ?_|refine Cf rfl ?_|refine Bi rfl ?_|refine Bz rfl ?_|refine Lr ?_);conv=>whnf))
    refine Cnd_i (fun g2 => ?_) (fun g2 => ?_)
    · ((conv=>whnf);repeat((first|refine Ct ‹_› ?_|refine Cf ‹_› ?_|refine Ct rfl ?_|refine Cf rfl ?_|refine Bi rfl ?_|refine Bz rfl ?_|refine Lr ?_);conv=>whnf))
      (refine CallQ_some (F_controls b h.gb (s.un.getD t.toNat Unt.d) hU i i0 i1) ?_ ?_ ?_; rfl; rfl); ((conv=>whnf);repeat((first|refine Ct ‹_› ?_|refine Cf ‹_› ?_|refine Ct rfl ?_|refine Cf rfl ?_|refine Bi rfl ?_|refine Bz rfl ?_|refine Lr ?_);conv=>whnf))
      refine Cnd_i (fun g3 => ?_) (fun g3 => ?_)
      · ((conv=>whnf);repeat((first|refine Ct ‹_› ?_|refine Cf ‹_› ?_|refine Ct rfl ?_|refine Cf rfl ?_|refine Bi rfl ?_|refine Bz rfl ?_|refine Lr ?_);conv=>whnf))
        rw [← h3, zS, g2, g3]
        exact ⟨rfl, rfl, rfl⟩
      · ((conv=>whnf);repeat((first|refine Ct ‹_› ?_|refine Cf ‹_› ?_|refine Ct rfl ?_|refine Cf rfl ?_|refine Bi rfl ?_|refine Bz rfl ?_|refine Lr ?_);conv=>whnf))
        rw [zS, g2, g3] at h3
        refine ⟨n - 1, t + 1, ?_, by omega, by omega, by omega, h3⟩
        rw [wrapI (by omega)]; rfl
    · ((conv=>whnf);repeat((first|refine Ct ‹_› ?_|refine Cf ‹_› ?_|refine Ct rfl ?_|refine Cf rfl ?_|refine Bi rfl ?_|refine Bz rfl ?_|refine Lr ?_);conv=>whnf))
      rw [zS, g2] at h3
      refine ⟨n - 1, t + 1, ?_, by omega, by omega, by omega, h3⟩
      rw [wrapI (by omega)]; rfl
  · have ht := of_decide_eq_false g
    rw [show t.toNat = s.un.length by omega, List.drop_length] at h3
    ((conv=>whnf);repeat((first|refine Ct ‹_› ?_|refine Cf ‹_› ?_|refine Ct rfl ?_|refine Cf rfl ?_|refine Bi rfl ?_|refine Bz rfl ?_|refine Lr ?_);conv=>whnf))
    rw [← h3]
    exact ⟨rfl, rfl, rfl⟩

noncomputable def okHas (b : Brd) (s : Stt) (t : Int) : Bool := okBrd b && okSt b s && In t 0 (s.un.length - 1)

theorem StOk.of_has {b : Brd} {s : Stt} {t : Int} (ho : b.Ok) (h : okHas b s t = true) : StOk b s ∧ 0 ≤ t ∧ t < s.un.length := by
  simp only [okHas] at h
  rw [Bool.and_eq_true] at h
  have g := StOk.of ho h.1
  have := of_decide_eq_true h.2
  exact ⟨g, by omega, by omega⟩

theorem F_sHas (b : Brd) (ho : b.Ok) (s : Stt) (hs : s.Ok) (t : Int) : Fun E0 96 [.agg b.cs, .agg s.cs, vI t] [] (.v (vB (okHas b s t))) [] [] := by
  have hln : s.un.length ≤ 9223372036854775807 := hs.lun
  refine Fun_of_xc k96 rfl rfl (fun k q h => by cases h) ?_
  ((conv=>whnf);repeat((first|refine Ct ‹_› ?_|refine Cf ‹_› ?_|refine Ct rfl ?_|refine Cf rfl ?_|refine Bi rfl ?_|refine Bz rfl ?_|refine Lr ?_);conv=>whnf))
  (refine CallQ_some (F_sGood b ho s hs) ?_ ?_ ?_; rfl; rfl); ((conv=>whnf);repeat((first|refine Ct ‹_› ?_|refine Cf ‹_› ?_|refine Ct rfl ?_|refine Cf rfl ?_|refine Bi rfl ?_|refine Bz rfl ?_|refine Lr ?_);conv=>whnf))
  refine Cnd_i (fun g => ?_) (fun g => ?_)
  · ((conv=>whnf);repeat((first|refine Ct ‹_› ?_|refine Cf ‹_› ?_|refine Ct rfl ?_|refine Cf rfl ?_|refine Bi rfl ?_|refine Bz rfl ?_|refine Lr ?_);conv=>whnf))
    rw [wrapI (n := (s.un.length : Int) - 1) (by omega)]
    (refine CallQ_some (F_l1In _ _ _) ?_ ?_ ?_; rfl; rfl); ((conv=>whnf);repeat((first|refine Ct ‹_› ?_|refine Cf ‹_› ?_|refine Ct rfl ?_|refine Cf rfl ?_|refine Bi rfl ?_|refine Bz rfl ?_|refine Lr ?_);conv=>whnf))
    rw [okHas, g]
    exact ⟨rfl, rfl, rfl⟩
  · ((conv=>whnf);repeat((first|refine Ct ‹_› ?_|refine Cf ‹_› ?_|refine Ct rfl ?_|refine Cf rfl ?_|refine Bi rfl ?_|refine Bz rfl ?_|refine Lr ?_);conv=>whnf))
    rw [okHas, g]
    exact ⟨rfl, rfl, rfl⟩

theorem F_hasUnit (b : Brd) (ho : b.Ok) (s : Stt) (hs : s.Ok) (t : Int) : Fun E0 103 [.agg b.cs, .agg s.cs, vI t] [] (.v (vB (okHas b s t))) [] [] := by
  have hln : s.un.length ≤ 9223372036854775807 := hs.lun
  refine Fun_of_xc k103 rfl rfl (fun k q h => by cases h) ?_
  ((conv=>whnf);repeat((first|refine Ct ‹_› ?_|refine Cf ‹_› ?_|refine Ct rfl ?_|refine Cf rfl ?_|refine Bi rfl ?_|refine Bz rfl ?_|refine Lr ?_);conv=>whnf))
  (refine CallQ_some (F_fits b ho s hs) ?_ ?_ ?_; rfl; rfl); ((conv=>whnf);repeat((first|refine Ct ‹_› ?_|refine Cf ‹_› ?_|refine Ct rfl ?_|refine Cf rfl ?_|refine Bi rfl ?_|refine Bz rfl ?_|refine Lr ?_);conv=>whnf))
  refine Cnd_i (fun g => ?_) (fun g => ?_)
  · ((conv=>whnf);repeat((first|refine Ct ‹_› ?_|refine Cf ‹_› ?_|refine Ct rfl ?_|refine Cf rfl ?_|refine Bi rfl ?_|refine Bz rfl ?_|refine Lr ?_);conv=>whnf))
    (refine CallQ_some (F_isIndex _ _ (by unfold i64; omega)) ?_ ?_ ?_; rfl; rfl); ((conv=>whnf);repeat((first|refine Ct ‹_› ?_|refine Cf ‹_› ?_|refine Ct rfl ?_|refine Cf rfl ?_|refine Bi rfl ?_|refine Bz rfl ?_|refine Lr ?_);conv=>whnf))
    rw [okHas, g]
    exact ⟨rfl, rfl, rfl⟩
  · ((conv=>whnf);repeat((first|refine Ct ‹_› ?_|refine Cf ‹_› ?_|refine Ct rfl ?_|refine Cf rfl ?_|refine Bi rfl ?_|refine Bz rfl ?_|refine Lr ?_);conv=>whnf))
    rw [okHas, g]
    exact ⟨rfl, rfl, rfl⟩

theorem StOk.own {b : Brd} {s : Stt} (h : StOk b s) (i : Int) : ownR i s.un = -1 ∨ ownR i s.un = 0 ∨ ownR i s.un = 1 := by
  rcases ownR_spec i s.un with ⟨_, e⟩ | ⟨k, h1, _, h3⟩
  · exact .inl e
  · have := h.side h1
    omega

/-- may the supply of a side not go over a place -/
def jbk (b : Brd) (s : Stt) (side i : Int) : Bool := if (ownR i s.un == 1 - side) = true then true else if decide (ownR i s.un < 0) = true then zn b s (1 - side) i else false

theorem F_jBlocked (b : Brd) (s : Stt) (h : StOk b s) (side i : Int) (hd : side = 0 ∨ side = 1) (i0 : 0 ≤ i) (i1 : i < b.m.ter.length) :
    Fun E0 131 [.agg b.cs, .agg s.cs, vI side, vI i] [] (.v (vB (jbk b s side i))) [] [] := by
  have hl := h.len
  refine Fun_of_xc k131 rfl rfl (fun k q h => by cases h) ?_
  ((conv=>whnf);repeat((first|refine Ct ‹_› ?_|refine Cf ‹_› ?_|refine Ct rfl ?_|refine Cf rfl ?_|refine Bi rfl ?_|refine Bz rfl ?_|refine Lr ?_);conv=>whnf))
  (refine CallQ_some (F_sOwner s (by omega) i) ?_ ?_ ?_; rfl; rfl); ((conv=>whnf);repeat((first|refine Ct ‹_› ?_|refine Cf ‹_› ?_|refine Ct rfl ?_|refine Cf rfl ?_|refine Bi rfl ?_|refine Bz rfl ?_|refine Lr ?_);conv=>whnf))
  rw [wrapI (n := 1 - side) (by omega)]
  refine Cnd_i (fun g => ?_) (fun g => ?_)
  · ((conv=>whnf);repeat((first|refine Ct ‹_› ?_|refine Cf ‹_› ?_|refine Ct rfl ?_|refine Cf rfl ?_|refine Bi rfl ?_|refine Bz rfl ?_|refine Lr ?_);conv=>whnf))
    rw [jbk, if_pos g]
    exact ⟨rfl, rfl, rfl⟩
  ((conv=>whnf);repeat((first|refine Ct ‹_› ?_|refine Cf ‹_› ?_|refine Ct rfl ?_|refine Cf rfl ?_|refine Bi rfl ?_|refine Bz rfl ?_|refine Lr ?_);conv=>whnf))
  refine Cnd_i (fun g2 => ?_) (fun g2 => ?_)
  · ((conv=>whnf);repeat((first|refine Ct ‹_› ?_|refine Cf ‹_› ?_|refine Ct rfl ?_|refine Cf rfl ?_|refine Bi rfl ?_|refine Bz rfl ?_|refine Lr ?_);conv=>whnf))
    rw [wrapI (n := 1 - side) (by omega)]
    (refine CallQ_some (F_zIn b s h i (1 - side) i0 i1) ?_ ?_ ?_; rfl; rfl); ((conv=>whnf);repeat((first|refine Ct ‹_› ?_|refine Cf ‹_› ?_|refine Ct rfl ?_|refine Cf rfl ?_|refine Bi rfl ?_|refine Bz rfl ?_|refine Lr ?_);conv=>whnf))
    rw [jbk, if_neg (by rw [g]; simp), if_pos g2]
    exact ⟨rfl, rfl, rfl⟩
  · ((conv=>whnf);repeat((first|refine Ct ‹_› ?_|refine Cf ‹_› ?_|refine Ct rfl ?_|refine Cf rfl ?_|refine Bi rfl ?_|refine Bz rfl ?_|refine Lr ?_);conv=>whnf))
    rw [jbk, if_neg (by rw [g]; simp), if_neg (by rw [g2]; simp)]
    exact ⟨rfl, rfl, rfl⟩

theorem F_blockedFor (b : Brd) (s : Stt) (h : StOk b s) (side i : Int) (hd : side = 0 ∨ side = 1) (i0 : 0 ≤ i) (i1 : i < b.m.ter.length) :
    Fun E0 106 [.agg b.cs, .agg s.cs, vI side, vI i] [] (.v (vB (jbk b s side i))) [] [] := by
  have hl := h.len
  have how := h.own i
  refine Fun_of_xc k106 rfl rfl (fun k q h => by cases h) ?_
  ((conv=>whnf);repeat((first|refine Ct ‹_› ?_|refine Cf ‹_› ?_|refine Ct rfl ?_|refine Cf rfl ?_|refine Bi rfl ?_|refine Bz rfl ?_|refine Lr ?_);conv=>whnf))
  (refine CallQ_some (F_ownerOf s (by omega) i) ?_ ?_ ?_; rfl; rfl); ((conv=>whnf);repeat((first|refine Ct ‹_› ?_|refine Cf ‹_› ?_|refine Ct rfl ?_|refine Cf rfl ?_|refine Bi rfl ?_|refine Bz rfl ?_|refine Lr ?_);conv=>whnf))
  rw [wrapI (n := 1 - side) (by omega)]
  refine Cnd_i (fun g => ?_) (fun g => ?_)
  · ((conv=>whnf);repeat((first|refine Ct ‹_› ?_|refine Cf ‹_› ?_|refine Ct rfl ?_|refine Cf rfl ?_|refine Bi rfl ?_|refine Bz rfl ?_|refine Lr ?_);conv=>whnf))
    rw [jbk, if_pos g]
    exact ⟨rfl, rfl, rfl⟩
  have g1 : ¬ ownR i s.un = 1 - side := beq_eq_false_iff_ne.1 g
  ((conv=>whnf);repeat((first|refine Ct ‹_› ?_|refine Cf ‹_› ?_|refine Ct rfl ?_|refine Cf rfl ?_|refine Bi rfl ?_|refine Bz rfl ?_|refine Lr ?_);conv=>whnf))
  refine Cnd_i (fun g2 => ?_) (fun g2 => ?_)
  · have g3 : ownR i s.un ≠ side := bne_iff_ne.1 g2
    ((conv=>whnf);repeat((first|refine Ct ‹_› ?_|refine Cf ‹_› ?_|refine Ct rfl ?_|refine Cf rfl ?_|refine Bi rfl ?_|refine Bz rfl ?_|refine Lr ?_);conv=>whnf))
    rw [wrapI (n := 1 - side) (by omega)]
    (refine CallQ_some (F_inZone b s h (1 - side) i i0 i1) ?_ ?_ ?_; rfl; rfl); ((conv=>whnf);repeat((first|refine Ct ‹_› ?_|refine Cf ‹_› ?_|refine Ct rfl ?_|refine Cf rfl ?_|refine Bi rfl ?_|refine Bz rfl ?_|refine Lr ?_);conv=>whnf))
    rw [jbk, if_neg (by rw [g]; simp), if_pos (decide_eq_true (by omega))]
    exact ⟨rfl, rfl, rfl⟩
  · have g3 : ownR i s.un = side := by simpa using g2
    ((conv=>whnf);repeat((first|refine Ct ‹_› ?_|refine Cf ‹_› ?_|refine Ct rfl ?_|refine Cf rfl ?_|refine Bi rfl ?_|refine Bz rfl ?_|refine Lr ?_);conv=>whnf))
    rw [jbk, if_neg (by rw [g]; simp), if_neg (by rw [decide_eq_false (show ¬ ownR i s.un < 0 by omega)]; simp)]
    exact ⟨rfl, rfl, rfl⟩

/-- a row of n numbers -/
abbrev rwIn (n : Nat) (L : List Int) : Row := ⟨false, 1, n, fun i _ => cI (L.getD i 0)⟩

theorem rwIn_eq {n : Nat} {L : List Int} (h : L.length = n) : rwI L = rwIn n L := by subst h; rfl

theorem rwIn_set (n : Nat) (L : List Int) (x : Int) (i : Nat) (h : i < L.length) : RowEq ⟨false, 1, n, wrG (fun i _ => cI (L.getD i 0)) i 0 [cI x]⟩ (rwIn n (L.set i x)) := by
  refine ⟨rfl, rfl, rfl, fun i' j _ hj => ?_⟩
  have hj : j < 1 := hj
  obtain rfl : j = 0 := by omega
  show wrG (fun i _ => cI (L.getD i 0)) i 0 [cI x] i' 0 = cI ((L.set i x).getD i' 0)
  rw [getD_set L i x i' h]
  by_cases e : i' = i
  · subst e
    rw [wrG_in (by simp), if_pos rfl]; rfl
  · rw [wrG_out (fun hh => e hh.1), if_neg e]

theorem rwIn_zero (n : Nat) : RowEq (zeroRow false 1 n [cI 0]) (rwIn n (List.replicate n 0)) := by
  refine ⟨rfl, rfl, rfl, fun i j hi hj => ?_⟩
  have hj : j < 1 := hj
  obtain rfl : j = 0 := by omega
  show cI 0 = cI ((List.replicate n (0 : Int)).getD i 0)
  rw [List.getD_eq_getElem?_getD, List.getElem?_replicate]
  split <;> rfl

/-- a row of n truth values -/
abbrev rwBn (n : Nat) (L : List Bool) : Row := ⟨false, 1, n, fun i _ => .bool (L.getD i false)⟩

theorem rwBn_set (n : Nat) (L : List Bool) (x : Bool) (i : Nat) (h : i < L.length) : RowEq ⟨false, 1, n, wrG (fun i _ => .bool (L.getD i false)) i 0 [.bool x]⟩ (rwBn n (L.set i x)) := by
  refine ⟨rfl, rfl, rfl, fun i' j _ hj => ?_⟩
  have hj : j < 1 := hj
  obtain rfl : j = 0 := by omega
  show wrG (fun i _ => .bool (L.getD i false)) i 0 [.bool x] i' 0 = Cell.bool ((L.set i x).getD i' false)
  rw [getD_setB L i x i' h]
  by_cases e : i' = i
  · subst e
    rw [wrG_in (by simp), if_pos rfl]; rfl
  · rw [wrG_out (fun hh => e hh.1), if_neg e]

theorem rwBn_zero (n : Nat) : RowEq (zeroRow false 1 n [.bool false]) (rwBn n (List.replicate n false)) := by
  refine ⟨rfl, rfl, rfl, fun i j hi hj => ?_⟩
  have hj : j < 1 := hj
  obtain rfl : j = 0 := by omega
  show Cell.bool false = Cell.bool ((List.replicate n false).getD i false)
  rw [List.getD_eq_getElem?_getD, List.getElem?_replicate]
  split <;> rfl

/-- y is the best of the first t places: none if -1 -/
def bestI (L : List Int) (D : List Bool) (y t : Int) : Prop :=
  (y = -1 ∧ ∀ j : Nat, (j : Int) < t → D.getD j false = false → L.getD j 0 < 0) ∨
  (0 ≤ y ∧ y < t ∧ D.getD y.toNat false = false ∧ 0 ≤ L.getD y.toNat 0 ∧ ∀ j : Nat, (j : Int) < t → D.getD j false = false → 0 ≤ L.getD j 0 → L.getD y.toNat 0 ≤ L.getD j 0)

theorem bestI.b {L : List Int} {D : List Bool} {y t : Int} (h : bestI L D y t) : y = -1 ∨ 0 ≤ y ∧ y < t := by
  rcases h with h | h
  · exact .inl h.1
  · exact .inr ⟨h.1, h.2.1⟩

theorem all_neg1 {L : List Int} {n : Nat} (hl : L.length = n) (h : ∀ j : Nat, j < n → L.getD j 0 = -1) : L = List.replicate n (-1) := by
  refine list_ext_getD (by simp [hl]) fun j hj => ?_
  rw [h j (by omega)]
  simp [List.getD_eq_getElem?_getD, show j < n by omega]

theorem F_mSizeB (b : Brd) (h : GB b) : Fun E0 49 [.agg b.m.cs] [] (.v (vI b.m.ter.length)) [] [] := by
  rw [h.n]; exact F_mSize b.m h.wh

theorem getD_app {α : Type} (l : List α) (x d : α) (i : Nat) (hi : i < l.length + 1) : (l ++ [x]).getD i d = if i < l.length then l.getD i d else x := by
  rw [List.getD_eq_getElem?_getD, List.getD_eq_getElem?_getD]
  split
  · rename_i h; rw [List.getElem?_append_left h]
  · rename_i h
    rw [List.getElem?_append_right (by omega), show i - l.length = 0 by omega]; rfl

theorem app_get (l i : Nat) (f g : Nat → Nat → Cell) (j : Nat) : (bif Nat.blt i l then f i j else g (i - l) j) = if i < l then f i j else g (i - l) j := by
  by_cases e : i < l
  · have : Nat.blt i l = true := by simpa [Nat.blt_eq] using e
    rw [this, if_pos e]; rfl
  · have : Nat.blt i l = false := by
      rw [Bool.eq_false_iff]; intro h; exact e (by simpa [Nat.blt_eq] using h)
    rw [this, if_neg e]; rfl

/-! ### distances -/
def abz (n : Int) : Int := if n < 0 then -n else n

theorem F_absOf (n : Int) (hn : -1000000 ≤ n ∧ n ≤ 1000000) : Fun E0 107 [vI n] [] (.v (vI (abz n))) [] [] := by
  refine Fun_of_xc k107 rfl rfl (fun k q h => by cases h) ?_
  ((conv=>whnf);repeat((first|refine Ct ‹_› ?_|refine Cf ‹_› ?_|refine Ct rfl ?_|refine Cf rfl ?_|refine Bi rfl ?_|refine Bz rfl ?_|refine Lr ?_);conv=>whnf))
  refine Cnd_i (fun g => ?_) (fun g => ?_)
  · have g := of_decide_eq_true g
    ((conv=>whnf);repeat((first|refine Ct ‹_› ?_|refine Cf ‹_› ?_|refine Ct rfl ?_|refine Cf rfl ?_|refine Bi rfl ?_|refine Bz rfl ?_|refine Lr ?_);conv=>whnf))
    refine ⟨?_, rfl, rfl⟩
    rw [wrapI (by omega), abz, if_pos g, show (0 : Int) - n = -n by omega]; rfl
  · have g := of_decide_eq_false g
    ((conv=>whnf);repeat((first|refine Ct ‹_› ?_|refine Cf ‹_› ?_|refine Ct rfl ?_|refine Cf rfl ?_|refine Bi rfl ?_|refine Bz rfl ?_|refine Lr ?_);conv=>whnf))
    rw [abz, if_neg g]
    exact ⟨rfl, rfl, rfl⟩

structure HxB (q r : Int) : Prop where
  q : 0 ≤ q ∧ q ≤ 9
  r : 0 ≤ r ∧ r ≤ 9

theorem tdiv2 {x : Int} : x.tdiv 2 = if x < 0 then -((-x) / 2) else x / 2 := by
  split
  · rw [show x = -(-x) by omega, Int.neg_tdiv, Int.tdiv_eq_ediv_of_nonneg (by omega)]; simp
  · rw [Int.tdiv_eq_ediv_of_nonneg (by omega)]

theorem F_distance (aq ar bq br : Int) (ha : HxB aq ar) (hb : HxB bq br) : Fun E0 66 [.agg [cI aq, cI ar], .agg [cI bq, cI br]] [] (.v (vI (dsH aq ar bq br))) [] [] := by
  have h1 := ha.q; have h2 := ha.r; have h3 := hb.q; have h4 := hb.r
  have a1 : -9 ≤ abz (bq - aq) ∧ abz (bq - aq) ≤ 9 := by unfold abz; split <;> omega
  have a2 : -9 ≤ abz (br - ar) ∧ abz (br - ar) ≤ 9 := by unfold abz; split <;> omega
  have a3 : -18 ≤ abz (bq - aq + (br - ar)) ∧ abz (bq - aq + (br - ar)) ≤ 18 := by unfold abz; split <;> omega
  refine Fun_of_xc k66 rfl rfl (fun k q h => by cases h) ?_
  ((conv=>whnf);repeat((first|refine Ct ‹_› ?_|refine Cf ‹_› ?_|refine Ct rfl ?_|refine Cf rfl ?_|refine Bi rfl ?_|refine Bz rfl ?_|refine Lr ?_);conv=>whnf))
  refine CallQ_eq (show _ = [vI (bq - aq)] by rw [wrapI (by omega)]) ?_
  (refine CallQ_some (F_absOf (bq - aq) (by omega)) ?_ ?_ ?_; rfl; rfl); ((conv=>whnf);repeat((first|refine Ct ‹_› ?_|refine Cf ‹_› ?_|refine Ct rfl ?_|refine Cf rfl ?_|refine Bi rfl ?_|refine Bz rfl ?_|refine Lr ?_);conv=>whnf))
  refine CallQ_eq (show _ = [vI (br - ar)] by rw [wrapI (by omega)]) ?_
  (refine CallQ_some (F_absOf (br - ar) (by omega)) ?_ ?_ ?_; rfl; rfl); ((conv=>whnf);repeat((first|refine Ct ‹_› ?_|refine Cf ‹_› ?_|refine Ct rfl ?_|refine Cf rfl ?_|refine Bi rfl ?_|refine Bz rfl ?_|refine Lr ?_);conv=>whnf))
  refine CallQ_eq (show _ = [vI (bq - aq + (br - ar))] by rw [wrapI (n := bq - aq) (by omega), wrapI (n := br - ar) (by omega), wrapI (by omega)]) ?_
  (refine CallQ_some (F_absOf (bq - aq + (br - ar)) (by omega)) ?_ ?_ ?_; rfl; rfl); ((conv=>whnf);repeat((first|refine Ct ‹_› ?_|refine Cf ‹_› ?_|refine Ct rfl ?_|refine Cf rfl ?_|refine Bi rfl ?_|refine Bz rfl ?_|refine Lr ?_);conv=>whnf))
  refine ⟨?_, rfl, rfl⟩
  rw [wrapI (n := abz (bq - aq) + abz (br - ar)) (by omega), wrapI (n := abz (bq - aq) + abz (br - ar) + abz (bq - aq + (br - ar))) (by omega), wrapI (by rw [tdiv2]; omega)]
  rfl

structure PtB (q r n : Int) : Prop where
  n : 1 ≤ n ∧ n ≤ 18
  q : 0 ≤ q ∧ q ≤ 1000
  r : 0 ≤ r ∧ r ≤ 1000

theorem range_succ' {α : Type} (f : Nat → α) (t : Int) (h0 : 0 ≤ t) : (List.range (t + 1).toNat).map f = (List.range t.toNat).map f ++ [f t.toNat] := by
  rw [show (t + 1).toNat = t.toNat + 1 by omega, List.range_succ, List.map_append]; rfl

/-- a place of a map, as its indices -/
theorem hx_b {m : Map} (h : WH m) {i : Int} (h0 : 0 ≤ i) (h1 : i < m.w * m.h) : HxB (i.tmod m.w) (i.tdiv m.w) := by
  have hw := h.w1; have hw2 := h.w2; have hh2 := h.h2; have hm := h.mul
  have h3 := tdiv_b (i := i) (w := m.w) h0 (by omega) hw
  refine ⟨⟨h3.2.2.1, by omega⟩, h3.1, ?_⟩
  have h4 := Int.mul_tdiv_add_tmod i m.w
  by_cases e : i.tdiv m.w ≤ 9
  · exact e
  · have h5 : m.w * 10 ≤ m.w * i.tdiv m.w := Int.mul_le_mul_of_nonneg_left (by omega) (by omega)
    have h6 : m.w * m.h ≤ m.w * 10 := Int.mul_le_mul_of_nonneg_left hh2 (by omega)
    omega

theorem hx_w {m : Map} (h : WH m) {i : Int} (h0 : 0 ≤ i) (h1 : i < m.w * m.h) : i.tmod m.w ≤ m.w - 1 ∧ i.tdiv m.w ≤ m.h - 1 := by
  have hw := h.w1; have hm := h.mul
  have h3 := tdiv_b (i := i) (w := m.w) h0 (by omega) hw
  refine ⟨by omega, ?_⟩
  have h4 := Int.mul_tdiv_add_tmod i m.w
  by_cases e : i.tdiv m.w ≤ m.h - 1
  · exact e
  · have h5 : m.w * m.h ≤ m.w * i.tdiv m.w := Int.mul_le_mul_of_nonneg_left (by omega) (by omega)
    omega

def okAv (b : Brd) (av : List Int) : Bool := (av.all fun a => In a 0 (b.m.ter.length - 1)) && rising av

/-! ### a place to meet -/
def betM (L L' : List Int) (x y : Int) : Prop := max (L.getD x.toNat 0) (L'.getD x.toNat 0) < max (L.getD y.toNat 0) (L'.getD y.toNat 0) ∨ (max (L.getD x.toNat 0) (L'.getD x.toNat 0) = max (L.getD y.toNat 0) (L'.getD y.toNat 0) ∧ L.getD x.toNat 0 + L'.getD x.toNat 0 < L.getD y.toNat 0 + L'.getD y.toNat 0)

instance (L L' : List Int) (x y : Int) : Decidable (betM L L' x y) := by unfold betM; infer_instance

def dsM (m : Map) (i k : Int) : Int := dsH (i.tmod m.w) (i.tdiv m.w) (k.tmod m.w) (k.tdiv m.w)

structure KiOk (b : Brd) (k i : Int) : Prop where
  gb : GB b
  k : 0 ≤ k ∧ k < b.r.knd.length
  i : 0 ≤ i ∧ i < b.m.ter.length

structure KdOk (b : Brd) (k : Int) : Prop where
  gb : GB b
  k : 0 ≤ k ∧ k < b.r.knd.length

abbrev roB (l : List Bool) : Cell := .ro 1 l.length fun i _ => .bool (l.getD i false)

abbrev rwB (l : List Bool) : Row := ⟨false, 1, l.length, fun i _ => .bool (l.getD i false)⟩

theorem rwB_no (l : List Bool) : NoRo (rwB l) := fun _ _ _ _ => rfl

theorem rwB_nil (g : Nat → Nat → Cell) : RowEq ⟨false, 1, 0, g⟩ (rwB []) := ⟨rfl, rfl, rfl, fun i j hi _ => by simp at hi⟩

theorem rwBn_eq {n : Nat} {L : List Bool} (h : L.length = n) : rwB L = rwBn n L := by subst h; rfl

theorem rwB_app (l : List Bool) (x : Bool) (g : Nat → Nat → Cell) (h : g 0 0 = .bool x) : RowEq (appRow (rwB l) 1 g) (rwB (l ++ [x])) := by
  refine ⟨rfl, rfl, by simp [appRow], fun i j hi hj => ?_⟩
  have hj : j < 1 := hj
  obtain rfl : j = 0 := by omega
  have hi : i < l.length + 1 := hi
  show (bif Nat.blt i l.length then Cell.bool (l.getD i false) else g (i - l.length) 0) = Cell.bool ((l ++ [x]).getD i false)
  rw [app_get l.length i (fun i _ => Cell.bool (l.getD i false)) g 0, getD_app l x false i hi]
  split
  · rfl
  · rw [show i - l.length = 0 by omega]; exact h

/-- two places of a map lie side by side -/
def gN (m : Map) (j k : Int) : Prop := (0 ≤ j ∧ j < m.w * m.h) ∧ 0 ≤ k ∧ ∃ d, 0 ≤ d ∧ d ≤ 5 ∧ k = nx m j d

theorem gN_b {m : Map} (h : WH m) {j k : Int} (hg : gN m j k) : 0 ≤ k ∧ k < m.w * m.h := by
  obtain ⟨_, h1, d, _, _, rfl⟩ := hg
  have := nx_b h j d
  exact ⟨h1, by omega⟩

def opO (O : List Bool) : Int → Bool := fun k => O.getD k.toNat false

/-- the least numbers of steps -/
noncomputable def spL (m : Map) (O : List Bool) (F : List Int) : List Int := dsS O.length (gN m) (opO O) (srcS F (opO O))

theorem spL_ok (m : Map) (O : List Bool) (F : List Int) : DstS O.length (gN m) (opO O) (srcS F (opO O)) (spL m O F) := dsS_ok _ _ _ _

theorem spL_len (m : Map) (O : List Bool) (F : List Int) : (spL m O F).length = O.length := (spL_ok m O F).len

theorem F_jFar (m : Map) (h : WH m) (O : List Bool) (F : List Int) (hN : (O.length : Int) = m.w * m.h) (h6 : F.length ≤ 6) (hF : ∀ x ∈ F, 0 ≤ x ∧ x < O.length) :
    Fun E0 99 [.agg m.cs, .one (roB O), .one (roI F)] [] (.v (.one (.own 0 (spL m O F).length))) [(0, rwI (spL m O F))] [] := by
  have hm := h.mul
  refine Fun_of_xc k99 rfl rfl (nrC (rwI_no _) nrN) ?_
  ((conv=>whnf);repeat((first|refine Ct ‹_› ?_|refine Cf ‹_› ?_|refine Ct rfl ?_|refine Cf rfl ?_|refine Bi rfl ?_|refine Bz rfl ?_|refine Lr ?_);conv=>whnf))
  refine Rw_i (rwI []) (rwI_nil _) ?_
  ((conv=>whnf);repeat((first|refine Ct ‹_› ?_|refine Cf ‹_› ?_|refine Ct rfl ?_|refine Cf rfl ?_|refine Bi rfl ?_|refine Bz rfl ?_|refine Lr ?_);conv=>whnf))
  refine Bnd_i (by omega) ?_
  ((conv=>whnf);repeat((first|refine Ct ‹_› ?_|refine Cf ‹_› ?_|refine Ct rfl ?_|refine Cf rfl ?_|refine Bi rfl ?_|refine Bz rfl ?_|refine Lr ?_);conv=>whnf))
  refine Rw_i (rwIn O.length (List.replicate O.length 0)) (rwIn_zero _) ?_
  ((conv=>whnf);repeat((first|refine Ct ‹_› ?_|refine Cf ‹_› ?_|refine Ct rfl ?_|refine Cf rfl ?_|refine Bi rfl ?_|refine Bz rfl ?_|refine Lr ?_);conv=>whnf))
  refine WLoop_v2 ⟨[1, 2, 3, 7, 19, 20], [3], []⟩ (fun (t : Int) (L : List Int) => hdS 93 [(1, .v (.one (roB O))), (2, .v (.one (roI F))), (3, .v (.one (.box 3 0))), (7, .v (.one (.own (vkey 7) O.length))), (19, .v (vI O.length)), (20, .v (vI t))] [(3, m.cs)] [(vkey 7, rwIn O.length L)])
    (fun n t L => 0 ≤ t ∧ t + n = O.length ∧ L.length = O.length ∧ ∀ j : Nat, (j : Int) < t → L.getD j 0 = -1) O.length 0 (List.replicate O.length 0) rfl ⟨by omega, by omega, by simp, fun j hj => by omega⟩ ?_
  rintro n t L ⟨h1, h2, hlen, h3⟩
  ((conv=>whnf);repeat((first|refine Ct ‹_› ?_|refine Cf ‹_› ?_|refine Ct rfl ?_|refine Cf rfl ?_|refine Bi rfl ?_|refine Bz rfl ?_|refine Lr ?_);conv=>whnf))
  refine Cnd_i (fun g => ?_) (fun g => ?_)
  · have ht := of_decide_eq_true g
    ((conv=>whnf);repeat((first|refine Ct ‹_› ?_|refine Cf ‹_› ?_|refine Ct rfl ?_|refine Cf rfl ?_|refine Bi rfl ?_|refine Bz rfl ?_|refine Lr ?_);conv=>whnf))
    refine Bnd_i (⟨h1, ht⟩) ?_; ((conv=>whnf);repeat((first|refine Ct ‹_› ?_|refine Cf ‹_› ?_|refine Ct rfl ?_|refine Cf rfl ?_|refine Bi rfl ?_|refine Bz rfl ?_|refine Lr ?_);conv=>whnf))
    refine Rw_i (rwIn O.length (L.set t.toNat (-1))) (rwIn_set _ _ _ _ (by omega)) ?_
    ((conv=>whnf);repeat((first|refine Ct ‹_› ?_|refine Cf ‹_› ?_|refine Ct rfl ?_|refine Cf rfl ?_|refine Bi rfl ?_|refine Bz rfl ?_|refine Lr ?_);conv=>whnf))
    refine ⟨n - 1, t + 1, L.set t.toNat (-1), ?_, by omega, by omega, by omega, by simp [hlen], fun j hj => ?_⟩
    · rw [wrapI (by omega)]; rfl
    · rw [getD_set _ _ _ _ (by omega)]
      split
      · rfl
      · exact h3 j (by omega)
  have ht := of_decide_eq_false g
  have hL := all_neg1 hlen (fun j hj => h3 j (by omega))
  subst hL
  clear h1 h2 h3 hlen g ht
  ((conv=>whnf);repeat((first|refine Ct ‹_› ?_|refine Cf ‹_› ?_|refine Ct rfl ?_|refine Cf rfl ?_|refine Bi rfl ?_|refine Bz rfl ?_|refine Lr ?_);conv=>whnf))
  refine Rw_i (rwI []) (rwI_nil _) ?_
  ((conv=>whnf);repeat((first|refine Ct ‹_› ?_|refine Cf ‹_› ?_|refine Ct rfl ?_|refine Cf rfl ?_|refine Bi rfl ?_|refine Bz rfl ?_|refine Lr ?_);conv=>whnf))
  refine WLoop_v3 ⟨[1, 3, 7, 9, 27, 28, 29], [3], []⟩ (fun (t : Int) (L Q : List Int) => hdS 93 [(1, .v (.one (roB O))), (3, .v (.one (.box 3 0))), (7, .v (.one (.own (vkey 7) O.length))), (9, .v (.one (.own (vkey 9) Q.length))), (27, .v (.one (roI F))), (28, .v (vI F.length)), (29, .v (vI t))] [(3, m.cs)] [(vkey 7, rwIn O.length L), (vkey 9, rwI Q)])
    (fun n t L Q => 0 ≤ t ∧ t + n = F.length ∧ Bsr O.length (opO O) F L Q t.toNat) F.length 0 (List.replicate O.length (-1)) [] rfl ⟨by omega, by omega, Bsr.init _ _ _⟩ ?_
  rintro n t L Q ⟨h1, h2, h3⟩
  have hlen := h3.len
  have hql := h3.ql
  ((conv=>whnf);repeat((first|refine Ct ‹_› ?_|refine Cf ‹_› ?_|refine Ct rfl ?_|refine Cf rfl ?_|refine Bi rfl ?_|refine Bz rfl ?_|refine Lr ?_);conv=>whnf))
  refine Cnd_i (fun g => ?_) (fun g => ?_)
  · have ht := of_decide_eq_true g
    have hx := hF _ (getD_mem h1 ht)
    ((conv=>whnf);repeat((first|refine Ct ‹_› ?_|refine Cf ‹_› ?_|refine Ct rfl ?_|refine Cf rfl ?_|refine Bi rfl ?_|refine Bz rfl ?_|refine Lr ?_);conv=>whnf))
    refine Bnd_i (⟨h1, ht⟩) ?_; ((conv=>whnf);repeat((first|refine Ct ‹_› ?_|refine Cf ‹_› ?_|refine Ct rfl ?_|refine Cf rfl ?_|refine Bi rfl ?_|refine Bz rfl ?_|refine Lr ?_);conv=>whnf))
    refine Bnd_i (⟨hx.1, hx.2⟩) ?_; ((conv=>whnf);repeat((first|refine Ct ‹_› ?_|refine Cf ‹_› ?_|refine Ct rfl ?_|refine Cf rfl ?_|refine Bi rfl ?_|refine Bz rfl ?_|refine Lr ?_);conv=>whnf))
    refine Cnd_i (fun g2 => ?_) (fun g2 => ?_)
    · ((conv=>whnf);repeat((first|refine Ct ‹_› ?_|refine Cf ‹_› ?_|refine Ct rfl ?_|refine Cf rfl ?_|refine Bi rfl ?_|refine Bz rfl ?_|refine Lr ?_);conv=>whnf))
      refine Bnd_i (⟨hx.1, hx.2⟩) ?_; ((conv=>whnf);repeat((first|refine Ct ‹_› ?_|refine Cf ‹_› ?_|refine Ct rfl ?_|refine Cf rfl ?_|refine Bi rfl ?_|refine Bz rfl ?_|refine Lr ?_);conv=>whnf))
      refine Rw_i (rwIn O.length (L.set (F.getD t.toNat 0).toNat 0)) (rwIn_set _ _ _ _ (by omega)) ?_
      ((conv=>whnf);repeat((first|refine Ct ‹_› ?_|refine Cf ‹_› ?_|refine Ct rfl ?_|refine Cf rfl ?_|refine Bi rfl ?_|refine Bz rfl ?_|refine Lr ?_);conv=>whnf))
      refine Rw_self ?_
      ((conv=>whnf);repeat((first|refine Ct ‹_› ?_|refine Cf ‹_› ?_|refine Ct rfl ?_|refine Cf rfl ?_|refine Bi rfl ?_|refine Bz rfl ?_|refine Lr ?_);conv=>whnf))
      refine Bnd_i ?_ ?_
      · show Q.length + 1 < _
        omega
      ((conv=>whnf);repeat((first|refine Ct ‹_› ?_|refine Cf ‹_› ?_|refine Ct rfl ?_|refine Cf rfl ?_|refine Bi rfl ?_|refine Bz rfl ?_|refine Lr ?_);conv=>whnf))
      refine Rw_i (rwI (Q ++ [F.getD t.toNat 0])) (rwI_app _ _ _ rfl) ?_
      ((conv=>whnf);repeat((first|refine Ct ‹_› ?_|refine Cf ‹_› ?_|refine Ct rfl ?_|refine Cf rfl ?_|refine Bi rfl ?_|refine Bz rfl ?_|refine Lr ?_);conv=>whnf))
      refine ⟨n - 1, t + 1, L.set (F.getD t.toNat 0).toNat 0, Q ++ [F.getD t.toNat 0], ?_, by omega, by omega, by omega, ?_⟩
      · rw [wrapI (by omega)]; rfl
      · rw [show (t + 1).toNat = t.toNat + 1 by omega]; exact h3.push (by omega) hx g2
    · ((conv=>whnf);repeat((first|refine Ct ‹_› ?_|refine Cf ‹_› ?_|refine Ct rfl ?_|refine Cf rfl ?_|refine Bi rfl ?_|refine Bz rfl ?_|refine Lr ?_);conv=>whnf))
      refine ⟨n - 1, t + 1, L, Q, ?_, by omega, by omega, by omega, ?_⟩
      · rw [wrapI (by omega)]; rfl
      · rw [show (t + 1).toNat = t.toNat + 1 by omega]; exact h3.skip g2
  have ht := of_decide_eq_false g
  rw [show t.toNat = F.length by omega] at h3
  have hb0 : Bfs O.length (gN m) (opO O) (srcS F (opO O)) L Q 0 := h3.fin h6 hF
  clear h3 h1 h2 hlen hql g ht
  ((conv=>whnf);repeat((first|refine Ct ‹_› ?_|refine Cf ‹_› ?_|refine Ct rfl ?_|refine Cf rfl ?_|refine Bi rfl ?_|refine Bz rfl ?_|refine Lr ?_);conv=>whnf))
  refine WLoop_v3 ⟨[1, 3, 7, 9, 12], [3], []⟩ (fun (a : Int) (L Q : List Int) => hdS 93 [(1, .v (.one (roB O))), (3, .v (.one (.box 3 0))), (7, .v (.one (.own (vkey 7) O.length))), (9, .v (.one (.own (vkey 9) Q.length))), (12, .v (vI a))] [(3, m.cs)] [(vkey 7, rwIn O.length L), (vkey 9, rwI Q)])
    (fun n a L Q => 0 ≤ a ∧ a + n = 6 + O.length ∧ Bfs O.length (gN m) (opO O) (srcS F (opO O)) L Q a.toNat) (6 + O.length) 0 L Q rfl ⟨by omega, by omega, hb0⟩ ?_
  clear hb0
  rintro n a L Q ⟨a1, a2, hb⟩
  have hlen := hb.len
  have hbd := hb.bound
  ((conv=>whnf);repeat((first|refine Ct ‹_› ?_|refine Cf ‹_› ?_|refine Ct rfl ?_|refine Cf rfl ?_|refine Bi rfl ?_|refine Bz rfl ?_|refine Lr ?_);conv=>whnf))
  refine Cnd_i (fun g => ?_) (fun g => ?_)
  rotate_left
  · have ha := of_decide_eq_false g
    have hd := hb.fin (by omega) (fun j k hg => by have := gN_b h hg; omega)
    ((conv=>whnf);repeat((first|refine Ct ‹_› ?_|refine Cf ‹_› ?_|refine Ct rfl ?_|refine Cf rfl ?_|refine Bi rfl ?_|refine Bz rfl ?_|refine Lr ?_);conv=>whnf))
    have e1 : spL m O F = L := hd.eq.symm
    rw [e1, rwIn_eq hd.len, hd.len]
    exact ⟨rfl, rfl, rfl⟩
  have ha := of_decide_eq_true g
  have hq := hb.q a.toNat (by omega)
  ((conv=>whnf);repeat((first|refine Ct ‹_› ?_|refine Cf ‹_› ?_|refine Ct rfl ?_|refine Cf rfl ?_|refine Bi rfl ?_|refine Bz rfl ?_|refine Lr ?_);conv=>whnf))
  refine WLoop_v3 ⟨[1, 3, 7, 9, 12, 13], [3], []⟩ (fun (d : Int) (L Q : List Int) => hdS 93 [(1, .v (.one (roB O))), (3, .v (.one (.box 3 0))), (7, .v (.one (.own (vkey 7) O.length))), (9, .v (.one (.own (vkey 9) Q.length))), (12, .v (vI a)), (13, .v (vI d))] [(3, m.cs)] [(vkey 7, rwIn O.length L), (vkey 9, rwI Q)])
    (fun l d L' Q' => 0 ≤ d ∧ d + l = 6 ∧ Q'.getD a.toNat 0 = Q.getD a.toNat 0 ∧ Bfi O.length (gN m) (opO O) (srcS F (opO O)) L' Q' a.toNat (fun x => 0 ≤ x ∧ ∃ e, 0 ≤ e ∧ e < d ∧ x = nx m (Q.getD a.toNat 0) e)) 6 0 L Q rfl ⟨by omega, by omega, rfl, (Bfi.init hb (by omega)).cong (fun x ⟨_, e, e1, e2, _⟩ => by omega)⟩ ?_
  generalize hQ0 : Q.getD a.toNat 0 = q0 at *
  clear hb hlen hbd ha g
  rintro l d L Q ⟨t1, t2, hqe, hi⟩
  have hlen := hi.b.len
  have hlt := hi.lt
  have hqi := hi.b.q a.toNat hlt
  have hbd := hi.b.bound
  ((conv=>whnf);repeat((first|refine Ct ‹_› ?_|refine Cf ‹_› ?_|refine Ct rfl ?_|refine Cf rfl ?_|refine Bi rfl ?_|refine Bz rfl ?_|refine Lr ?_);conv=>whnf))
  refine Cnd_i (fun g => ?_) (fun g => ?_)
  rotate_left
  · have ht := of_decide_eq_false g
    ((conv=>whnf);repeat((first|refine Ct ‹_› ?_|refine Cf ‹_› ?_|refine Ct rfl ?_|refine Cf rfl ?_|refine Bi rfl ?_|refine Bz rfl ?_|refine Lr ?_);conv=>whnf))
    refine ⟨n - 1, a + 1, L, Q, ?_, by omega, by omega, by omega, ?_⟩
    · rw [wrapI (by omega)]; rfl
    · rw [show (a + 1).toNat = a.toNat + 1 by omega]
      refine hi.fin (fun k hg => ?_)
      rw [hqe] at hg
      obtain ⟨_, h1, e, e0, e5, e6⟩ := hg
      exact ⟨h1, e, e0, by omega, e6⟩
  have ht := of_decide_eq_true g
  have hdn : ∀ x : Int, (0 ≤ x ∧ ∃ e, 0 ≤ e ∧ e < d + 1 ∧ x = nx m q0 e) → (0 ≤ x ∧ ∃ e, 0 ≤ e ∧ e < d ∧ x = nx m q0 e) ∨ x = nx m q0 d := by
    rintro x ⟨x0, e, e1, e2, e3⟩
    by_cases e9 : e = d
    · subst e9; exact .inr e3
    · exact .inl ⟨x0, e, e1, by omega, e3⟩
  have hnb := nx_b h q0 d
  ((conv=>whnf);repeat((first|refine Ct ‹_› ?_|refine Cf ‹_› ?_|refine Ct rfl ?_|refine Cf rfl ?_|refine Bi rfl ?_|refine Bz rfl ?_|refine Lr ?_);conv=>whnf))
  refine Bnd_i (⟨a1, by omega⟩) ?_; ((conv=>whnf);repeat((first|refine Ct ‹_› ?_|refine Cf ‹_› ?_|refine Ct rfl ?_|refine Cf rfl ?_|refine Bi rfl ?_|refine Bz rfl ?_|refine Lr ?_);conv=>whnf))
  rw [hqe]
  (refine CallQ_some (F_mNext m h q0 d (by omega) (by omega) t1 (by omega)) ?_ ?_ ?_; rfl; rfl); ((conv=>whnf);repeat((first|refine Ct ‹_› ?_|refine Cf ‹_› ?_|refine Ct rfl ?_|refine Cf rfl ?_|refine Bi rfl ?_|refine Bz rfl ?_|refine Lr ?_);conv=>whnf))
  refine Cnd_i (fun g1 => ?_) (fun g1 => ?_)
  rotate_left
  · have d1 := of_decide_eq_false g1
    ((conv=>whnf);repeat((first|refine Ct ‹_› ?_|refine Cf ‹_› ?_|refine Ct rfl ?_|refine Cf rfl ?_|refine Bi rfl ?_|refine Bz rfl ?_|refine Lr ?_);conv=>whnf))
    refine ⟨l - 1, d + 1, L, Q, ?_, by omega, by omega, by omega, hqe, hi.cong (fun x hx => (hdn x hx).elim id (fun e9 => by omega))⟩
    rw [wrapI (n := d + 1) (by omega)]; rfl
  have d1 := of_decide_eq_true g1
  have hk : 0 ≤ nx m q0 d ∧ nx m q0 d < O.length := by omega
  have hgk : gN m q0 (nx m q0 d) := ⟨by omega, d1, d, t1, by omega, rfl⟩
  ((conv=>whnf);repeat((first|refine Ct ‹_› ?_|refine Cf ‹_› ?_|refine Ct rfl ?_|refine Cf rfl ?_|refine Bi rfl ?_|refine Bz rfl ?_|refine Lr ?_);conv=>whnf))
  refine Bnd_i (⟨hk.1, hk.2⟩) ?_; ((conv=>whnf);repeat((first|refine Ct ‹_› ?_|refine Cf ‹_› ?_|refine Ct rfl ?_|refine Cf rfl ?_|refine Bi rfl ?_|refine Bz rfl ?_|refine Lr ?_);conv=>whnf))
  refine Cnd_i (fun g2 => ?_) (fun g2 => ?_)
  · ((conv=>whnf);repeat((first|refine Ct ‹_› ?_|refine Cf ‹_› ?_|refine Ct rfl ?_|refine Cf rfl ?_|refine Bi rfl ?_|refine Bz rfl ?_|refine Lr ?_);conv=>whnf))
    refine Bnd_i (⟨hk.1, hk.2⟩) ?_; ((conv=>whnf);repeat((first|refine Ct ‹_› ?_|refine Cf ‹_› ?_|refine Ct rfl ?_|refine Cf rfl ?_|refine Bi rfl ?_|refine Bz rfl ?_|refine Lr ?_);conv=>whnf))
    refine Cnd_i (fun g3 => ?_) (fun g3 => ?_)
    · have d3 := of_decide_eq_true g3
      ((conv=>whnf);repeat((first|refine Ct ‹_› ?_|refine Cf ‹_› ?_|refine Ct rfl ?_|refine Cf rfl ?_|refine Bi rfl ?_|refine Bz rfl ?_|refine Lr ?_);conv=>whnf))
      refine Bnd_i (⟨a1, by omega⟩) ?_; ((conv=>whnf);repeat((first|refine Ct ‹_› ?_|refine Cf ‹_› ?_|refine Ct rfl ?_|refine Cf rfl ?_|refine Bi rfl ?_|refine Bz rfl ?_|refine Lr ?_);conv=>whnf))
      refine Bnd_i (⟨hqi.1.1, hqi.1.2⟩) ?_; ((conv=>whnf);repeat((first|refine Ct ‹_› ?_|refine Cf ‹_› ?_|refine Ct rfl ?_|refine Cf rfl ?_|refine Bi rfl ?_|refine Bz rfl ?_|refine Lr ?_);conv=>whnf))
      refine Bnd_i (⟨hk.1, hk.2⟩) ?_; ((conv=>whnf);repeat((first|refine Ct ‹_› ?_|refine Cf ‹_› ?_|refine Ct rfl ?_|refine Cf rfl ?_|refine Bi rfl ?_|refine Bz rfl ?_|refine Lr ?_);conv=>whnf))
      refine Rw_i (rwIn O.length (L.set (nx m q0 d).toNat (L.getD (Q.getD a.toNat 0).toNat 0 + 1))) (by rw [wrapI (by omega)]; exact rwIn_set _ _ _ _ (by omega)) ?_
      ((conv=>whnf);repeat((first|refine Ct ‹_› ?_|refine Cf ‹_› ?_|refine Ct rfl ?_|refine Cf rfl ?_|refine Bi rfl ?_|refine Bz rfl ?_|refine Lr ?_);conv=>whnf))
      refine Rw_self ?_
      ((conv=>whnf);repeat((first|refine Ct ‹_› ?_|refine Cf ‹_› ?_|refine Ct rfl ?_|refine Cf rfl ?_|refine Bi rfl ?_|refine Bz rfl ?_|refine Lr ?_);conv=>whnf))
      refine Bnd_i ?_ ?_
      · show Q.length + 1 < _
        omega
      ((conv=>whnf);repeat((first|refine Ct ‹_› ?_|refine Cf ‹_› ?_|refine Ct rfl ?_|refine Cf rfl ?_|refine Bi rfl ?_|refine Bz rfl ?_|refine Lr ?_);conv=>whnf))
      refine Rw_i (rwI (Q ++ [(nx m q0 d)])) (rwI_app _ _ _ rfl) ?_
      ((conv=>whnf);repeat((first|refine Ct ‹_› ?_|refine Cf ‹_› ?_|refine Ct rfl ?_|refine Cf rfl ?_|refine Bi rfl ?_|refine Bz rfl ?_|refine Lr ?_);conv=>whnf))
      refine ⟨l - 1, d + 1, L.set (nx m q0 d).toNat (L.getD (Q.getD a.toNat 0).toNat 0 + 1), Q ++ [nx m q0 d], ?_, by omega, by omega, by omega, ?_, (hi.push hk (by rw [hqe]; exact hgk) g2 d3).cong hdn⟩
      · rw [wrapI (n := d + 1) (by omega)]; rfl
      · rw [getD_snoc, if_pos hlt]; exact hqe
    · have d3 := of_decide_eq_false g3
      ((conv=>whnf);repeat((first|refine Ct ‹_› ?_|refine Cf ‹_› ?_|refine Ct rfl ?_|refine Cf rfl ?_|refine Bi rfl ?_|refine Bz rfl ?_|refine Lr ?_);conv=>whnf))
      refine ⟨l - 1, d + 1, L, Q, ?_, by omega, by omega, by omega, hqe, (hi.skip hk (fun _ => by omega)).cong hdn⟩
      rw [wrapI (n := d + 1) (by omega)]; rfl
  · ((conv=>whnf);repeat((first|refine Ct ‹_› ?_|refine Cf ‹_› ?_|refine Ct rfl ?_|refine Cf rfl ?_|refine Bi rfl ?_|refine Bz rfl ?_|refine Lr ?_);conv=>whnf))
    refine ⟨l - 1, d + 1, L, Q, ?_, by omega, by omega, by omega, hqe, (hi.skip hk (fun ho => by rw [show opO O (nx m q0 d) = false from g2] at ho; cases ho)).cong hdn⟩
    rw [wrapI (n := d + 1) (by omega)]; rfl

def opU (b : Brd) (s : Stt) (side kind : Int) : Int → Bool := fun i => decide (costAt b kind i > 0) && !(jbk b s side i)

def opBs (b : Brd) (s : Stt) (side kind : Int) : List Bool := (List.range b.m.ter.length).map fun i : Nat => opU b s side kind i

theorem opBs_len (b : Brd) (s : Stt) (side kind : Int) : (opBs b s side kind).length = b.m.ter.length := by simp [opBs]

theorem F_openFor (b : Brd) (s : Stt) (h : StOk b s) (side kind : Int) (hd : side = 0 ∨ side = 1) (hk : 0 ≤ kind ∧ kind < b.r.knd.length) :
    Fun E0 63 [.agg b.cs, .agg s.cs, vI side, vI kind] [] (.v (.one (.own 0 (opBs b s side kind).length))) [(0, rwB (opBs b s side kind))] [] := by
  have hm := h.gb.wh.mul
  have hn := h.gb.n
  refine Fun_of_xc k63 rfl rfl (nrC (rwB_no _) nrN) ?_
  ((conv=>whnf);repeat((first|refine Ct ‹_› ?_|refine Cf ‹_› ?_|refine Ct rfl ?_|refine Cf rfl ?_|refine Bi rfl ?_|refine Bz rfl ?_|refine Lr ?_);conv=>whnf))
  refine Rw_i (rwB []) (rwB_nil _) ?_
  ((conv=>whnf);repeat((first|refine Ct ‹_› ?_|refine Cf ‹_› ?_|refine Ct rfl ?_|refine Cf rfl ?_|refine Bi rfl ?_|refine Bz rfl ?_|refine Lr ?_);conv=>whnf))
  refine Rw_i (rwB []) (rwB_nil _) ?_
  ((conv=>whnf);repeat((first|refine Ct ‹_› ?_|refine Cf ‹_› ?_|refine Ct rfl ?_|refine Cf rfl ?_|refine Bi rfl ?_|refine Bz rfl ?_|refine Lr ?_);conv=>whnf))
  refine WLoop_v2 ⟨[2, 3, 4, 5, 9, 15, 16], [4, 5], []⟩ (fun (t : Int) (out : List Bool) => hdS 37 [(2, .v (vI side)), (3, .v (vI kind)), (4, .v (.one (.box 4 0))), (5, .v (.one (.box 5 0))), (9, .v (.one (.own (vkey 9) out.length))), (15, .v (vI b.m.ter.length)), (16, .v (vI t))] [(4, b.cs), (5, s.cs)] [(vkey 9, rwB out)])
    (fun n t out => 0 ≤ t ∧ t + n = b.m.ter.length ∧ out = (List.range t.toNat).map fun i : Nat => opU b s side kind i) b.m.ter.length 0 [] rfl ⟨by omega, by omega, rfl⟩ ?_
  rintro n t out ⟨h1, h2, h3⟩
  have hol : out.length ≤ 100 := by rw [h3, List.length_map, List.length_range]; omega
  ((conv=>whnf);repeat((first|refine Ct ‹_› ?_|refine Cf ‹_› ?_|refine Ct rfl ?_|refine Cf rfl ?_|refine Bi rfl ?_|refine Bz rfl ?_|refine Lr ?_);conv=>whnf))
  refine Cnd_i (fun g => ?_) (fun g => ?_)
  · have ht := of_decide_eq_true g
    have hc := h.gb.cost (k := kind) (i := t) h1 ht hk.1 hk.2
    have hns : (List.range (t + 1).toNat).map (fun i : Nat => opU b s side kind i) = out ++ [opU b s side kind t] := by
      rw [range_succ' _ t h1, ← h3, show ((t.toNat : Nat) : Int) = t by omega]
    ((conv=>whnf);repeat((first|refine Ct ‹_› ?_|refine Cf ‹_› ?_|refine Ct rfl ?_|refine Cf rfl ?_|refine Bi rfl ?_|refine Bz rfl ?_|refine Lr ?_);conv=>whnf))
    (refine CallQ_some (F_enterCost b h.gb kind t h1 ht hk.1 hk.2) ?_ ?_ ?_; rfl; rfl); ((conv=>whnf);repeat((first|refine Ct ‹_› ?_|refine Cf ‹_› ?_|refine Ct rfl ?_|refine Cf rfl ?_|refine Bi rfl ?_|refine Bz rfl ?_|refine Lr ?_);conv=>whnf))
    refine Cnd_i (fun g2 => ?_) (fun g2 => ?_)
    · have e2 : opU b s side kind t = !(jbk b s side t) := by
        have : ¬ costAt b kind t = 0 := by simpa using g2
        rw [opU, decide_eq_true (by omega), Bool.true_and]
      ((conv=>whnf);repeat((first|refine Ct ‹_› ?_|refine Cf ‹_› ?_|refine Ct rfl ?_|refine Cf rfl ?_|refine Bi rfl ?_|refine Bz rfl ?_|refine Lr ?_);conv=>whnf))
      (refine CallQ_some (F_blockedFor b s h side t hd h1 ht) ?_ ?_ ?_; rfl; rfl); ((conv=>whnf);repeat((first|refine Ct ‹_› ?_|refine Cf ‹_› ?_|refine Ct rfl ?_|refine Cf rfl ?_|refine Bi rfl ?_|refine Bz rfl ?_|refine Lr ?_);conv=>whnf))
      refine Rw_self ?_
      ((conv=>whnf);repeat((first|refine Ct ‹_› ?_|refine Cf ‹_› ?_|refine Ct rfl ?_|refine Cf rfl ?_|refine Bi rfl ?_|refine Bz rfl ?_|refine Lr ?_);conv=>whnf))
      refine Bnd_i ?_ ?_
      · show out.length + 1 < _
        omega
      ((conv=>whnf);repeat((first|refine Ct ‹_› ?_|refine Cf ‹_› ?_|refine Ct rfl ?_|refine Cf rfl ?_|refine Bi rfl ?_|refine Bz rfl ?_|refine Lr ?_);conv=>whnf))
      refine Rw_i (rwB (out ++ [opU b s side kind t])) (rwB_app _ _ _ (by rw [e2]; rfl)) ?_
      ((conv=>whnf);repeat((first|refine Ct ‹_› ?_|refine Cf ‹_› ?_|refine Ct rfl ?_|refine Cf rfl ?_|refine Bi rfl ?_|refine Bz rfl ?_|refine Lr ?_);conv=>whnf))
      refine ⟨n - 1, t + 1, out ++ [opU b s side kind t], ?_, by omega, by omega, by omega, hns.symm⟩
      rw [wrapI (by omega)]; rfl
    · have e2 : opU b s side kind t = false := by
        have : costAt b kind t = 0 := by simpa using g2
        rw [opU, decide_eq_false (by omega), Bool.false_and]
      ((conv=>whnf);repeat((first|refine Ct ‹_› ?_|refine Cf ‹_› ?_|refine Ct rfl ?_|refine Cf rfl ?_|refine Bi rfl ?_|refine Bz rfl ?_|refine Lr ?_);conv=>whnf))
      refine Rw_self ?_
      ((conv=>whnf);repeat((first|refine Ct ‹_› ?_|refine Cf ‹_› ?_|refine Ct rfl ?_|refine Cf rfl ?_|refine Bi rfl ?_|refine Bz rfl ?_|refine Lr ?_);conv=>whnf))
      refine Bnd_i ?_ ?_
      · show out.length + 1 < _
        omega
      ((conv=>whnf);repeat((first|refine Ct ‹_› ?_|refine Cf ‹_› ?_|refine Ct rfl ?_|refine Cf rfl ?_|refine Bi rfl ?_|refine Bz rfl ?_|refine Lr ?_);conv=>whnf))
      refine Rw_i (rwB (out ++ [opU b s side kind t])) (rwB_app _ _ _ (by rw [e2]; rfl)) ?_
      ((conv=>whnf);repeat((first|refine Ct ‹_› ?_|refine Cf ‹_› ?_|refine Ct rfl ?_|refine Cf rfl ?_|refine Bi rfl ?_|refine Bz rfl ?_|refine Lr ?_);conv=>whnf))
      refine ⟨n - 1, t + 1, out ++ [opU b s side kind t], ?_, by omega, by omega, by omega, hns.symm⟩
      rw [wrapI (by omega)]; rfl
  · have ht := of_decide_eq_false g
    ((conv=>whnf);repeat((first|refine Ct ‹_› ?_|refine Cf ‹_› ?_|refine Ct rfl ?_|refine Cf rfl ?_|refine Bi rfl ?_|refine Bz rfl ?_|refine Lr ?_);conv=>whnf))
    rw [h3, show t.toNat = b.m.ter.length by omega, show (List.range b.m.ter.length).map (fun i : Nat => opU b s side kind i) = opBs b s side kind from rfl]
    exact ⟨rfl, rfl, rfl⟩

theorem F_jOpen (b : Brd) (s : Stt) (h : StOk b s) (side kind : Int) (hd : side = 0 ∨ side = 1) (hk : 0 ≤ kind ∧ kind < b.r.knd.length) :
    Fun E0 98 [.agg b.cs, .agg s.cs, vI side, vI kind] [] (.v (.one (.own 0 (opBs b s side kind).length))) [(0, rwB (opBs b s side kind))] [] := by
  have hm := h.gb.wh.mul
  have hn := h.gb.n
  have hbl := opBs_len b s side kind
  have hbg : ∀ j : Nat, j < b.m.ter.length → (opBs b s side kind).getD j false = opU b s side kind j := by
    intro j hj
    simp [opBs, List.getD_eq_getElem?_getD, hj]
  refine Fun_of_xc k98 rfl rfl (nrC (rwB_no _) nrN) ?_
  ((conv=>whnf);repeat((first|refine Ct ‹_› ?_|refine Cf ‹_› ?_|refine Ct rfl ?_|refine Cf rfl ?_|refine Bi rfl ?_|refine Bz rfl ?_|refine Lr ?_);conv=>whnf))
  refine Rw_i (rwB []) (rwB_nil _) ?_
  ((conv=>whnf);repeat((first|refine Ct ‹_› ?_|refine Cf ‹_› ?_|refine Ct rfl ?_|refine Cf rfl ?_|refine Bi rfl ?_|refine Bz rfl ?_|refine Lr ?_);conv=>whnf))
  (refine CallQ_some (F_mSizeB b h.gb) ?_ ?_ ?_; rfl; rfl); ((conv=>whnf);repeat((first|refine Ct ‹_› ?_|refine Cf ‹_› ?_|refine Ct rfl ?_|refine Cf rfl ?_|refine Bi rfl ?_|refine Bz rfl ?_|refine Lr ?_);conv=>whnf))
  refine Bnd_i (by omega) ?_
  ((conv=>whnf);repeat((first|refine Ct ‹_› ?_|refine Cf ‹_› ?_|refine Ct rfl ?_|refine Cf rfl ?_|refine Bi rfl ?_|refine Bz rfl ?_|refine Lr ?_);conv=>whnf))
  refine Rw_i (rwBn b.m.ter.length (List.replicate b.m.ter.length false)) (rwBn_zero _) ?_
  ((conv=>whnf);repeat((first|refine Ct ‹_› ?_|refine Cf ‹_› ?_|refine Ct rfl ?_|refine Cf rfl ?_|refine Bi rfl ?_|refine Bz rfl ?_|refine Lr ?_);conv=>whnf))
  refine WLoop_v2 ⟨[2, 3, 4, 5, 9, 16, 17], [4, 5], []⟩ (fun (t : Int) (out : List Bool) => hdS 38 [(2, .v (vI side)), (3, .v (vI kind)), (4, .v (.one (.box 4 0))), (5, .v (.one (.box 5 0))), (9, .v (.one (.own (vkey 9) b.m.ter.length))), (16, .v (vI b.m.ter.length)), (17, .v (vI t))] [(4, b.cs), (5, s.cs)] [(vkey 9, rwBn b.m.ter.length out)])
    (fun n t out => 0 ≤ t ∧ t + n = b.m.ter.length ∧ out.length = b.m.ter.length ∧ ∀ j : Nat, (j : Int) < t → out.getD j false = opU b s side kind j) b.m.ter.length 0 (List.replicate b.m.ter.length false) rfl ⟨by omega, by omega, by simp, fun j hj => by omega⟩ ?_
  rintro n t out ⟨h1, h2, hlen, h3⟩
  ((conv=>whnf);repeat((first|refine Ct ‹_› ?_|refine Cf ‹_› ?_|refine Ct rfl ?_|refine Cf rfl ?_|refine Bi rfl ?_|refine Bz rfl ?_|refine Lr ?_);conv=>whnf))
  refine Cnd_i (fun g => ?_) (fun g => ?_)
  · have ht := of_decide_eq_true g
    have hset : ∀ j : Nat, (j : Int) < t + 1 → (out.set t.toNat (opU b s side kind t)).getD j false = opU b s side kind j := by
      intro j hj
      rw [getD_setB _ _ _ _ (by omega)]
      split
      · rename_i e; rw [show (j : Int) = t by omega]
      · exact h3 j (by omega)
    ((conv=>whnf);repeat((first|refine Ct ‹_› ?_|refine Cf ‹_› ?_|refine Ct rfl ?_|refine Cf rfl ?_|refine Bi rfl ?_|refine Bz rfl ?_|refine Lr ?_);conv=>whnf))
    (refine CallQ_some (F_bCost b h.gb kind t h1 ht hk.1 hk.2) ?_ ?_ ?_; rfl; rfl); ((conv=>whnf);repeat((first|refine Ct ‹_› ?_|refine Cf ‹_› ?_|refine Ct rfl ?_|refine Cf rfl ?_|refine Bi rfl ?_|refine Bz rfl ?_|refine Lr ?_);conv=>whnf))
    refine Cnd_i (fun g2 => ?_) (fun g2 => ?_)
    · have e2 : opU b s side kind t = !(jbk b s side t) := by rw [opU, g2, Bool.true_and]
      ((conv=>whnf);repeat((first|refine Ct ‹_› ?_|refine Cf ‹_› ?_|refine Ct rfl ?_|refine Cf rfl ?_|refine Bi rfl ?_|refine Bz rfl ?_|refine Lr ?_);conv=>whnf))
      (refine CallQ_some (F_jBlocked b s h side t hd h1 ht) ?_ ?_ ?_; rfl; rfl); ((conv=>whnf);repeat((first|refine Ct ‹_› ?_|refine Cf ‹_› ?_|refine Ct rfl ?_|refine Cf rfl ?_|refine Bi rfl ?_|refine Bz rfl ?_|refine Lr ?_);conv=>whnf))
      refine Bnd_i (⟨h1, ht⟩) ?_; ((conv=>whnf);repeat((first|refine Ct ‹_› ?_|refine Cf ‹_› ?_|refine Ct rfl ?_|refine Cf rfl ?_|refine Bi rfl ?_|refine Bz rfl ?_|refine Lr ?_);conv=>whnf))
      refine Rw_i (rwBn b.m.ter.length (out.set t.toNat (opU b s side kind t))) (by rw [e2]; exact rwBn_set _ _ _ _ (by omega)) ?_
      ((conv=>whnf);repeat((first|refine Ct ‹_› ?_|refine Cf ‹_› ?_|refine Ct rfl ?_|refine Cf rfl ?_|refine Bi rfl ?_|refine Bz rfl ?_|refine Lr ?_);conv=>whnf))
      refine ⟨n - 1, t + 1, out.set t.toNat (opU b s side kind t), ?_, by omega, by omega, by omega, by simp [hlen], hset⟩
      rw [wrapI (by omega)]; rfl
    · have e2 : opU b s side kind t = false := by rw [opU, g2, Bool.false_and]
      ((conv=>whnf);repeat((first|refine Ct ‹_› ?_|refine Cf ‹_› ?_|refine Ct rfl ?_|refine Cf rfl ?_|refine Bi rfl ?_|refine Bz rfl ?_|refine Lr ?_);conv=>whnf))
      refine Bnd_i (⟨h1, ht⟩) ?_; ((conv=>whnf);repeat((first|refine Ct ‹_› ?_|refine Cf ‹_› ?_|refine Ct rfl ?_|refine Cf rfl ?_|refine Bi rfl ?_|refine Bz rfl ?_|refine Lr ?_);conv=>whnf))
      refine Rw_i (rwBn b.m.ter.length (out.set t.toNat (opU b s side kind t))) (by rw [e2]; exact rwBn_set _ _ _ _ (by omega)) ?_
      ((conv=>whnf);repeat((first|refine Ct ‹_› ?_|refine Cf ‹_› ?_|refine Ct rfl ?_|refine Cf rfl ?_|refine Bi rfl ?_|refine Bz rfl ?_|refine Lr ?_);conv=>whnf))
      refine ⟨n - 1, t + 1, out.set t.toNat (opU b s side kind t), ?_, by omega, by omega, by omega, by simp [hlen], hset⟩
      rw [wrapI (by omega)]; rfl
  · have ht := of_decide_eq_false g
    have e4 : opBs b s side kind = out := by
      apply List.ext_getElem (by omega)
      intro j h5 h6
      have h7 := h3 j (by omega)
      have h8 := hbg j (by omega)
      rw [List.getD_eq_getElem?_getD, List.getElem?_eq_getElem h6] at h7
      rw [List.getD_eq_getElem?_getD, List.getElem?_eq_getElem h5] at h8
      exact h8.trans h7.symm
    ((conv=>whnf);repeat((first|refine Ct ‹_› ?_|refine Cf ‹_› ?_|refine Ct rfl ?_|refine Cf rfl ?_|refine Bi rfl ?_|refine Bz rfl ?_|refine Lr ?_);conv=>whnf))
    rw [e4, rwBn_eq hlen, hlen]
    exact ⟨rfl, rfl, rfl⟩

/-! ### sources -/
def okSr (b : Brd) (F : List Int) : Bool := decide ((F.length : Int) ≤ 6) && okAv b F

theorem okSr_mem {b : Brd} {F : List Int} (h : okSr b F = true) : F.length ≤ 6 ∧ ∀ x ∈ F, 0 ≤ x ∧ x < b.m.ter.length := by
  simp only [okSr, okAv, Bool.and_eq_true] at h
  obtain ⟨h1, h2, _⟩ := h
  have h1 := of_decide_eq_true h1
  refine ⟨by omega, fun x hx => ?_⟩
  have := of_decide_eq_true (List.all_eq_true.1 h2 x hx)
  omega

theorem F_jSources (b : Brd) (h : GB b) (F : List Int) (hF : okL F) : Fun E0 97 [.agg b.cs, .one (roI F)] [] (.v (vB (okSr b F))) [] [] := by
  have hm := h.wh.mul
  have hn := h.n
  refine Fun_of_xc k97 rfl rfl (fun k q h => by cases h) ?_
  ((conv=>whnf);repeat((first|refine Ct ‹_› ?_|refine Cf ‹_› ?_|refine Ct rfl ?_|refine Cf rfl ?_|refine Bi rfl ?_|refine Bz rfl ?_|refine Lr ?_);conv=>whnf))
  refine Cnd_i (fun g => ?_) (fun g => ?_)
  · ((conv=>whnf);repeat((first|refine Ct ‹_› ?_|refine Cf ‹_› ?_|refine Ct rfl ?_|refine Cf rfl ?_|refine Bi rfl ?_|refine Bz rfl ?_|refine Lr ?_);conv=>whnf))
    (refine CallQ_some (F_mSizeB b h) ?_ ?_ ?_; rfl; rfl); ((conv=>whnf);repeat((first|refine Ct ‹_› ?_|refine Cf ‹_› ?_|refine Ct rfl ?_|refine Cf rfl ?_|refine Bi rfl ?_|refine Bz rfl ?_|refine Lr ?_);conv=>whnf))
    refine CallQ_eq (show _ = [.one (roI F), vI 0, vI ((b.m.ter.length : Int) - 1)] by rw [wrapI (by omega)]) ?_
    (refine CallQ_some (F_l1Rising F 0 ((b.m.ter.length : Int) - 1) hF.len) ?_ ?_ ?_; rfl; rfl); ((conv=>whnf);repeat((first|refine Ct ‹_› ?_|refine Cf ‹_› ?_|refine Ct rfl ?_|refine Cf rfl ?_|refine Bi rfl ?_|refine Bz rfl ?_|refine Lr ?_);conv=>whnf))
    rw [okSr, g, Bool.true_and]
    exact ⟨rfl, rfl, rfl⟩
  · ((conv=>whnf);repeat((first|refine Ct ‹_› ?_|refine Cf ‹_› ?_|refine Ct rfl ?_|refine Cf rfl ?_|refine Bi rfl ?_|refine Bz rfl ?_|refine Lr ?_);conv=>whnf))
    rw [okSr, g, Bool.false_and]
    exact ⟨rfl, rfl, rfl⟩

theorem F_areSources_1 (b : Brd) (h : GB b) (x : Int) : Fun E0 133 [vI x, .one (.pro 12 fun j => nth b.cs j)] [] (.v (vB (!In x 0 (b.m.ter.length - 1)))) [] [] := by
  have hm := h.wh.mul
  have hn := h.n
  refine Fun_of_xc k133 rfl rfl (fun k q h => by cases h) ?_
  ((conv=>whnf);repeat((first|refine Ct ‹_› ?_|refine Cf ‹_› ?_|refine Ct rfl ?_|refine Cf rfl ?_|refine Bi rfl ?_|refine Bz rfl ?_|refine Lr ?_);conv=>whnf))
  (refine CallQ_some (F_sizeOf b) ?_ ?_ ?_; rfl; rfl); ((conv=>whnf);repeat((first|refine Ct ‹_› ?_|refine Cf ‹_› ?_|refine Ct rfl ?_|refine Cf rfl ?_|refine Bi rfl ?_|refine Bz rfl ?_|refine Lr ?_);conv=>whnf))
  (refine CallQ_some (F_isIndex x b.m.ter.length ⟨by unfold i64; omega, by omega⟩) ?_ ?_ ?_; rfl; rfl); ((conv=>whnf);repeat((first|refine Ct ‹_› ?_|refine Cf ‹_› ?_|refine Ct rfl ?_|refine Cf rfl ?_|refine Bi rfl ?_|refine Bz rfl ?_|refine Lr ?_);conv=>whnf))
  exact ⟨rfl, rfl, rfl⟩

theorem F_areSources (b : Brd) (h : GB b) (F : List Int) (hF : okL F) : Fun E0 104 [.agg b.cs, .one (roI F)] [] (.v (vB (okSr b F))) [] [] := by
  have hany : (F.any fun x => !In x 0 (b.m.ter.length - 1)) = !(F.all fun x => In x 0 (b.m.ter.length - 1)) := by rw [List.not_all_eq_any_not]
  refine Fun_of_xc k104 rfl rfl (fun k q h => by cases h) ?_
  ((conv=>whnf);repeat((first|refine Ct ‹_› ?_|refine Cf ‹_› ?_|refine Ct rfl ?_|refine Cf rfl ?_|refine Bi rfl ?_|refine Bz rfl ?_|refine Lr ?_);conv=>whnf))
  refine Cnd_i (fun g => ?_) (fun g => ?_)
  · ((conv=>whnf);repeat((first|refine Ct ‹_› ?_|refine Cf ‹_› ?_|refine Ct rfl ?_|refine Cf rfl ?_|refine Bi rfl ?_|refine Bz rfl ?_|refine Lr ?_);conv=>whnf))
    (refine CallQ_some (F_increasing F hF.len) ?_ ?_ ?_; rfl; rfl); ((conv=>whnf);repeat((first|refine Ct ‹_› ?_|refine Cf ‹_› ?_|refine Ct rfl ?_|refine Cf rfl ?_|refine Bi rfl ?_|refine Bz rfl ?_|refine Lr ?_);conv=>whnf))
    refine Cnd_i (fun g2 => ?_) (fun g2 => ?_)
    · ((conv=>whnf);repeat((first|refine Ct ‹_› ?_|refine Cf ‹_› ?_|refine Ct rfl ?_|refine Cf rfl ?_|refine Bi rfl ?_|refine Bz rfl ?_|refine Lr ?_);conv=>whnf))
      (refine CallQ_some (F_ContainsFuncI F (fun x => !In x 0 (b.m.ter.length - 1)) 133 1 _ _ [.one (.pro 12 fun j => nth b.cs j)] rfl hF.len (fun x _ => F_areSources_1 b h x)) ?_ ?_ ?_; rfl; rfl); ((conv=>whnf);repeat((first|refine Ct ‹_› ?_|refine Cf ‹_› ?_|refine Ct rfl ?_|refine Cf rfl ?_|refine Bi rfl ?_|refine Bz rfl ?_|refine Lr ?_);conv=>whnf))
      rw [okSr, g, okAv, g2, hany, Bool.true_and, Bool.and_true, Bool.not_not]
      exact ⟨rfl, rfl, rfl⟩
    · ((conv=>whnf);repeat((first|refine Ct ‹_› ?_|refine Cf ‹_› ?_|refine Ct rfl ?_|refine Cf rfl ?_|refine Bi rfl ?_|refine Bz rfl ?_|refine Lr ?_);conv=>whnf))
      rw [okSr, g, okAv, g2, Bool.and_false, Bool.and_false]
      exact ⟨rfl, rfl, rfl⟩
  · ((conv=>whnf);repeat((first|refine Ct ‹_› ?_|refine Cf ‹_› ?_|refine Ct rfl ?_|refine Cf rfl ?_|refine Bi rfl ?_|refine Bz rfl ?_|refine Lr ?_);conv=>whnf))
    rw [okSr, g, Bool.false_and]
    exact ⟨rfl, rfl, rfl⟩

/-- how far each place is from the sources -/
noncomputable def splB (b : Brd) (s : Stt) (side kind : Int) (F : List Int) : List Int := spL b.m (opBs b s side kind) F

theorem splB_len (b : Brd) (s : Stt) (side kind : Int) (F : List Int) : (splB b s side kind F).length = b.m.ter.length := by unfold splB; rw [spL_len, opBs_len]

theorem F_jFarB (b : Brd) (h : GB b) (s : Stt) (side kind : Int) (F : List Int) (hF : okSr b F = true) : Fun E0 99 [.agg b.m.cs, .one (roB (opBs b s side kind)), .one (roI F)] [] (.v (.one (.own 0 (splB b s side kind F).length))) [(0, rwI (splB b s side kind F))] [] := by
  obtain ⟨h1, h2⟩ := okSr_mem hF
  have hn := h.n
  have hl := opBs_len b s side kind
  exact F_jFar b.m h.wh _ F (by omega) h1 (fun x hx => by have := h2 x hx; omega)

/-! ### is a unit in supply -/
noncomputable def okSu (b : Brd) (s : Stt) (t : Int) (F : List Int) : Bool := okHas b s t && okSr b F

theorem SuOk {b : Brd} (ho : b.Ok) {s : Stt} {t : Int} {F : List Int} (h : okSu b s t F = true) : (StOk b s ∧ 0 ≤ t ∧ t < s.un.length) ∧ okSr b F = true := by
  simp only [okSu, Bool.and_eq_true] at h
  exact ⟨StOk.of_has ho h.1, h.2⟩

theorem F_jInput (b : Brd) (ho : b.Ok) (s : Stt) (hs : s.Ok) (t : Int) (F : List Int) (hF : okL F) : Fun E0 56 [.agg b.cs, .agg s.cs, vI t, .one (roI F)] [] (.v (vB (okSu b s t F))) [] [] := by
  refine Fun_of_xc k56 rfl rfl (fun k q h => by cases h) ?_
  ((conv=>whnf);repeat((first|refine Ct ‹_› ?_|refine Cf ‹_› ?_|refine Ct rfl ?_|refine Cf rfl ?_|refine Bi rfl ?_|refine Bz rfl ?_|refine Lr ?_);conv=>whnf))
  (refine CallQ_some (F_sHas b ho s hs t) ?_ ?_ ?_; rfl; rfl); ((conv=>whnf);repeat((first|refine Ct ‹_› ?_|refine Cf ‹_› ?_|refine Ct rfl ?_|refine Cf rfl ?_|refine Bi rfl ?_|refine Bz rfl ?_|refine Lr ?_);conv=>whnf))
  refine Cnd_i (fun g => ?_) (fun g => ?_)
  · have h := (StOk.of_has ho g).1
    ((conv=>whnf);repeat((first|refine Ct ‹_› ?_|refine Cf ‹_› ?_|refine Ct rfl ?_|refine Cf rfl ?_|refine Bi rfl ?_|refine Bz rfl ?_|refine Lr ?_);conv=>whnf))
    (refine CallQ_some (F_jSources b h.gb F hF) ?_ ?_ ?_; rfl; rfl); ((conv=>whnf);repeat((first|refine Ct ‹_› ?_|refine Cf ‹_› ?_|refine Ct rfl ?_|refine Cf rfl ?_|refine Bi rfl ?_|refine Bz rfl ?_|refine Lr ?_);conv=>whnf))
    rw [okSu, g, Bool.true_and]
    exact ⟨rfl, rfl, rfl⟩
  · ((conv=>whnf);repeat((first|refine Ct ‹_› ?_|refine Cf ‹_› ?_|refine Ct rfl ?_|refine Cf rfl ?_|refine Bi rfl ?_|refine Bz rfl ?_|refine Lr ?_);conv=>whnf))
    rw [okSu, g, Bool.false_and]
    exact ⟨rfl, rfl, rfl⟩

theorem F_isSupply (b : Brd) (ho : b.Ok) (s : Stt) (hs : s.Ok) (t : Int) (F : List Int) (hF : okL F) : Fun E0 61 [.agg b.cs, .agg s.cs, vI t, .one (roI F)] [] (.v (vB (okSu b s t F))) [] [] := by
  refine Fun_of_xc k61 rfl rfl (fun k q h => by cases h) ?_
  ((conv=>whnf);repeat((first|refine Ct ‹_› ?_|refine Cf ‹_› ?_|refine Ct rfl ?_|refine Cf rfl ?_|refine Bi rfl ?_|refine Bz rfl ?_|refine Lr ?_);conv=>whnf))
  (refine CallQ_some (F_hasUnit b ho s hs t) ?_ ?_ ?_; rfl; rfl); ((conv=>whnf);repeat((first|refine Ct ‹_› ?_|refine Cf ‹_› ?_|refine Ct rfl ?_|refine Cf rfl ?_|refine Bi rfl ?_|refine Bz rfl ?_|refine Lr ?_);conv=>whnf))
  refine Cnd_i (fun g => ?_) (fun g => ?_)
  · have h := (StOk.of_has ho g).1
    ((conv=>whnf);repeat((first|refine Ct ‹_› ?_|refine Cf ‹_› ?_|refine Ct rfl ?_|refine Cf rfl ?_|refine Bi rfl ?_|refine Bz rfl ?_|refine Lr ?_);conv=>whnf))
    (refine CallQ_some (F_areSources b h.gb F hF) ?_ ?_ ?_; rfl; rfl); ((conv=>whnf);repeat((first|refine Ct ‹_› ?_|refine Cf ‹_› ?_|refine Ct rfl ?_|refine Cf rfl ?_|refine Bi rfl ?_|refine Bz rfl ?_|refine Lr ?_);conv=>whnf))
    rw [okSu, g, Bool.true_and]
    exact ⟨rfl, rfl, rfl⟩
  · ((conv=>whnf);repeat((first|refine Ct ‹_› ?_|refine Cf ‹_› ?_|refine Ct rfl ?_|refine Cf rfl ?_|refine Bi rfl ?_|refine Bz rfl ?_|refine Lr ?_);conv=>whnf))
    rw [okSu, g, Bool.false_and]
    exact ⟨rfl, rfl, rfl⟩

theorem UnOk.sd {b : Brd} {u : Unt} (h : UnOk b u) : u.side = 0 ∨ u.side = 1 := by have := h.side; omega

theorem F_jUnit (b : Brd) (s : Stt) (h : StOk b s) (t : Int) (t0 : 0 ≤ t) (t1 : t < s.un.length) (F : List Int) (hF : okSr b F = true) :
    Fun E0 59 [.agg b.cs, .agg s.cs, vI t, .one (roI F)] [] (.tup [.one (.own 0 (opBs b s (s.un.getD t.toNat Unt.d).side (s.un.getD t.toNat Unt.d).kind).length), .one (.own 1 (splB b s (s.un.getD t.toNat Unt.d).side (s.un.getD t.toNat Unt.d).kind F).length)]) [(0, rwB (opBs b s (s.un.getD t.toNat Unt.d).side (s.un.getD t.toNat Unt.d).kind)), (1, rwI (splB b s (s.un.getD t.toNat Unt.d).side (s.un.getD t.toNat Unt.d).kind F))] [] := by
  have hU := h.un _ (getD_memT (d := Unt.d) t0 t1)
  refine Fun_of_xc k59 rfl rfl (nrC (rwB_no _) (nrC (rwI_no _) nrN)) ?_
  ((conv=>whnf);repeat((first|refine Ct ‹_› ?_|refine Cf ‹_› ?_|refine Ct rfl ?_|refine Cf rfl ?_|refine Bi rfl ?_|refine Bz rfl ?_|refine Lr ?_);conv=>whnf))
  refine Rw_i (rwB []) (rwB_nil _) ?_
  ((conv=>whnf);repeat((first|refine Ct ‹_› ?_|refine Cf ‹_› ?_|refine Ct rfl ?_|refine Cf rfl ?_|refine Bi rfl ?_|refine Bz rfl ?_|refine Lr ?_);conv=>whnf))
  refine Rw_i (rwI []) (rwI_nil _) ?_
  ((conv=>whnf);repeat((first|refine Ct ‹_› ?_|refine Cf ‹_› ?_|refine Ct rfl ?_|refine Cf rfl ?_|refine Bi rfl ?_|refine Bz rfl ?_|refine Lr ?_);conv=>whnf))
  refine Bnd_i (⟨t0, t1⟩) ?_; ((conv=>whnf);repeat((first|refine Ct ‹_› ?_|refine Cf ‹_› ?_|refine Ct rfl ?_|refine Cf rfl ?_|refine Bi rfl ?_|refine Bz rfl ?_|refine Lr ?_);conv=>whnf))
  (refine CallQ_some (F_jOpen b s h _ _ hU.sd hU.kind) ?_ ?_ ?_; rfl; rfl); ((conv=>whnf);repeat((first|refine Ct ‹_› ?_|refine Cf ‹_› ?_|refine Ct rfl ?_|refine Cf rfl ?_|refine Bi rfl ?_|refine Bz rfl ?_|refine Lr ?_);conv=>whnf))
  (refine CallQ_some (F_jFarB b h.gb s _ _ F hF) ?_ ?_ ?_; rfl; rfl); ((conv=>whnf);repeat((first|refine Ct ‹_› ?_|refine Cf ‹_› ?_|refine Ct rfl ?_|refine Cf rfl ?_|refine Bi rfl ?_|refine Bz rfl ?_|refine Lr ?_);conv=>whnf))
  exact ⟨rfl, rfl, rfl⟩

theorem GB.sup {b : Brd} (h : GB b) : 0 ≤ b.r.supply ∧ b.r.supply ≤ 20 := by
  have hn := h.nums
  simp only [numsOk, Bool.and_eq_true] at hn
  exact of_decide_eq_true hn.1.2

theorem nx_of {m : Map} {j d q r : Int} (hd : 0 ≤ d ∧ d ≤ 5) (hq : q = j.tmod m.w + dq d) (hr : r = j.tdiv m.w + dr d) : nx m j d = ix m q r := by rw [hq, hr]; rfl

theorem ix_hx {m : Map} (h : WH m) {k : Int} (hk : 0 ≤ k ∧ k < m.w * m.h) : ix m (k.tmod m.w) (k.tdiv m.w) = k := by
  have hw := h.w1; have hm := h.mul
  have wk := hx_w h hk.1 hk.2
  have t3 := tdiv_b (i := k) (w := m.w) hk.1 (by omega) hw
  have h4 := Int.mul_tdiv_add_tmod k m.w
  rw [ix, if_pos ⟨⟨by omega, by omega⟩, by omega, by omega⟩, Int.mul_comm]
  omega

/-- places at a distance of one lie side by side -/
theorem ds_one {m : Map} (h : WH m) {j k : Int} (hj : 0 ≤ j ∧ j < m.w * m.h) (hk : 0 ≤ k ∧ k < m.w * m.h) : dsM m j k = 1 ↔ ∃ d, 0 ≤ d ∧ d ≤ 5 ∧ nx m j d = k := by
  have hix := ix_hx h hk
  have hw := h.w1; have hm := h.mul
  have t3 := tdiv_b (i := k) (w := m.w) hk.1 (by omega) hw
  constructor
  · intro h1
    unfold dsM dsH at h1
    rw [Int.tdiv_eq_ediv_of_nonneg (by split <;> split <;> split <;> omega)] at h1
    have key : ∀ d, 0 ≤ d → d ≤ 5 → k.tmod m.w - j.tmod m.w = dq d → k.tdiv m.w - j.tdiv m.w = dr d → ∃ d, 0 ≤ d ∧ d ≤ 5 ∧ nx m j d = k :=
      fun d d0 d5 e1 e2 => ⟨d, d0, d5, by rw [nx_of ⟨d0, d5⟩ (show k.tmod m.w = j.tmod m.w + dq d by omega) (show k.tdiv m.w = j.tdiv m.w + dr d by omega)]; exact hix⟩
    generalize k.tmod m.w - j.tmod m.w = x at h1 key
    generalize k.tdiv m.w - j.tdiv m.w = y at h1 key
    have h6 : (x = 1 ∧ y = 0) ∨ (x = 1 ∧ y = -1) ∨ (x = 0 ∧ y = -1) ∨ (x = -1 ∧ y = 0) ∨ (x = -1 ∧ y = 1) ∨ (x = 0 ∧ y = 1) := by
      by_cases a : x < 0 <;> by_cases b : y < 0 <;> by_cases c : x + y < 0 <;> simp only [a, b, c, if_true, if_false] at h1 <;> omega
    rcases h6 with ⟨rfl, rfl⟩ | ⟨rfl, rfl⟩ | ⟨rfl, rfl⟩ | ⟨rfl, rfl⟩ | ⟨rfl, rfl⟩ | ⟨rfl, rfl⟩
    · exact key 0 (by omega) (by omega) rfl rfl
    · exact key 1 (by omega) (by omega) rfl rfl
    · exact key 2 (by omega) (by omega) rfl rfl
    · exact key 3 (by omega) (by omega) rfl rfl
    · exact key 4 (by omega) (by omega) rfl rfl
    · exact key 5 (by omega) (by omega) rfl rfl
  · rintro ⟨d, d0, d5, e⟩
    have wj := hx_w h hj.1 hj.2
    have h4 := Int.mul_tdiv_add_tmod j m.w
    have e2 : k.tmod m.w = j.tmod m.w + dq d ∧ k.tdiv m.w = j.tdiv m.w + dr d := by
      have e : ix m (j.tmod m.w + dq d) (j.tdiv m.w + dr d) = k := e
      unfold ix at e
      split at e
      case isFalse => omega
      rename_i g
      obtain ⟨⟨g1, g2⟩, g3, g4⟩ := g
      rw [← e]
      constructor
      · rw [Int.add_comm, Int.tmod_eq_emod_of_nonneg (Int.add_nonneg g1 (Int.mul_nonneg g3 (by omega))), Int.add_mul_emod_self_right, Int.emod_eq_of_lt g1 (by omega)]
      · rw [Int.add_comm, Int.tdiv_eq_ediv_of_nonneg (Int.add_nonneg g1 (Int.mul_nonneg g3 (by omega))), Int.add_mul_ediv_right _ _ (by omega), Int.ediv_eq_zero_of_lt g1 (by omega), Int.zero_add]
    unfold dsM dsH
    rw [e2.1, e2.2, show j.tmod m.w + dq d - j.tmod m.w = dq d by omega, show j.tdiv m.w + dr d - j.tdiv m.w = dr d by omega]
    rcases six d0 d5 with rfl | rfl | rfl | rfl | rfl | rfl <;> rfl

def ckP (b : Brd) (s : Stt) (u : Unt) (F p : List Int) : Prop :=
  0 ≤ u.at' ∧ p.length ≠ 0 ∧ (p.length : Int) ≤ b.r.supply + 1 ∧ F.contains (p.getD 0 0) = true ∧ p.getD (p.length - 1) 0 = u.at' ∧
  ∀ k : Nat, k < p.length → (0 ≤ p.getD k 0 ∧ p.getD k 0 < b.m.ter.length) ∧ opO (opBs b s u.side u.kind) (p.getD k 0) = true ∧ (k = 0 ∨ dsM b.m (p.getD (k - 1) 0) (p.getD k 0) = 1)

open Classical in

noncomputable def ckB (b : Brd) (s : Stt) (u : Unt) (F p : List Int) : Bool := decide (ckP b s u F p)

open Classical in

theorem ckB_t {b : Brd} {s : Stt} {u : Unt} {F p : List Int} (h : ckP b s u F p) : ckB b s u F p = true := decide_eq_true h

open Classical in

theorem ckB_f {b : Brd} {s : Stt} {u : Unt} {F p : List Int} (h : ¬ ckP b s u F p) : ckB b s u F p = false := decide_eq_false h

noncomputable def ckR (b : Brd) (s : Stt) (t : Int) (F p : List Int) : Bool × Bool := if okSu b s t F = true then (ckB b s (s.un.getD t.toNat Unt.d) F p, true) else (false, false)

theorem F_CheckSupplyPath (b : Brd) (ho : b.Ok) (s : Stt) (hs : s.Ok) (t : Int) (F : List Int) (hF : okL F) (p : List Int) (hp : okL p) :
    Fun E0 25 [.agg b.cs, .agg s.cs, vI t, .one (roI F), .one (roI p)] [] (.tup [vB (ckR b s t F p).1, vB (ckR b s t F p).2]) [] [] := by
  refine Fun_of_xc k25 rfl rfl (fun k q h => by cases h) ?_
  ((conv=>whnf);repeat((first|refine Ct ‹_› ?_|refine Cf ‹_› ?_|refine Ct rfl ?_|refine Cf rfl ?_|refine Bi rfl ?_|refine Bz rfl ?_|refine Lr ?_);conv=>whnf))
  (refine CallQ_some (F_jInput b ho s hs t F hF) ?_ ?_ ?_; rfl; rfl); ((conv=>whnf);repeat((first|refine Ct ‹_› ?_|refine Cf ‹_› ?_|refine Ct rfl ?_|refine Cf rfl ?_|refine Bi rfl ?_|refine Bz rfl ?_|refine Lr ?_);conv=>whnf))
  refine Cnd_i (fun g => ?_) (fun g => ?_)
  · have e0 : okSu b s t F = false := by first | (rwa [Bool.not_eq_true'] at g) | (rwa [Bool.not_eq_false'] at g) | (simpa using g)
    ((conv=>whnf);repeat((first|refine Ct ‹_› ?_|refine Cf ‹_› ?_|refine Ct rfl ?_|refine Cf rfl ?_|refine Bi rfl ?_|refine Bz rfl ?_|refine Lr ?_);conv=>whnf))
    rw [ckR, e0]
    exact ⟨rfl, rfl, rfl⟩
  have e0 : okSu b s t F = true := by first | (rwa [Bool.not_eq_true'] at g) | (rwa [Bool.not_eq_false'] at g) | (simpa using g)
  obtain ⟨⟨h, t0, t1⟩, hF6⟩ := SuOk ho e0
  have hU := h.un _ (getD_memT (d := Unt.d) t0 t1)
  have hsp := h.gb.sup
  have hm := h.gb.wh.mul
  have hn := h.gb.n
  ((conv=>whnf);repeat((first|refine Ct ‹_› ?_|refine Cf ‹_› ?_|refine Ct rfl ?_|refine Cf rfl ?_|refine Bi rfl ?_|refine Bz rfl ?_|refine Lr ?_);conv=>whnf))
  refine Bnd_i (⟨t0, t1⟩) ?_; ((conv=>whnf);repeat((first|refine Ct ‹_› ?_|refine Cf ‹_› ?_|refine Ct rfl ?_|refine Cf rfl ?_|refine Bi rfl ?_|refine Bz rfl ?_|refine Lr ?_);conv=>whnf))
  generalize hu : s.un.getD t.toNat Unt.d = u at hU ⊢
  have hR : ckR b s t F p = (ckB b s u F p, true) := by rw [ckR, e0, hu]; rfl
  rw [hR]
  refine Cnd_i (fun g => ?_) (fun g => ?_)
  · have d := of_decide_eq_true g
    ((conv=>whnf);repeat((first|refine Ct ‹_› ?_|refine Cf ‹_› ?_|refine Ct rfl ?_|refine Cf rfl ?_|refine Bi rfl ?_|refine Bz rfl ?_|refine Lr ?_);conv=>whnf))
    rw [ckB_f (fun hh => by have := hh.1; omega)]
    exact ⟨rfl, rfl, rfl⟩
  have d1 := of_decide_eq_false g
  have ha := hU.at'
  ((conv=>whnf);repeat((first|refine Ct ‹_› ?_|refine Cf ‹_› ?_|refine Ct rfl ?_|refine Cf rfl ?_|refine Bi rfl ?_|refine Bz rfl ?_|refine Lr ?_);conv=>whnf))
  refine Cnd_i (fun g => ?_) (fun g => ?_)
  · have d : (p.length : Int) = 0 := by simpa using g
    ((conv=>whnf);repeat((first|refine Ct ‹_› ?_|refine Cf ‹_› ?_|refine Ct rfl ?_|refine Cf rfl ?_|refine Bi rfl ?_|refine Bz rfl ?_|refine Lr ?_);conv=>whnf))
    rw [ckB_f (fun hh => by have := hh.2.1; omega)]
    exact ⟨rfl, rfl, rfl⟩
  have d2 : ¬ (p.length : Int) = 0 := by simpa using g
  ((conv=>whnf);repeat((first|refine Ct ‹_› ?_|refine Cf ‹_› ?_|refine Ct rfl ?_|refine Cf rfl ?_|refine Bi rfl ?_|refine Bz rfl ?_|refine Lr ?_);conv=>whnf))
  refine Cnd_i (fun g => ?_) (fun g => ?_)
  · have d := of_decide_eq_true g
    rw [wrapI (by omega)] at d
    ((conv=>whnf);repeat((first|refine Ct ‹_› ?_|refine Cf ‹_› ?_|refine Ct rfl ?_|refine Cf rfl ?_|refine Bi rfl ?_|refine Bz rfl ?_|refine Lr ?_);conv=>whnf))
    rw [ckB_f (fun hh => by have := hh.2.2.1; omega)]
    exact ⟨rfl, rfl, rfl⟩
  have d3 := of_decide_eq_false g
  rw [wrapI (by omega)] at d3
  ((conv=>whnf);repeat((first|refine Ct ‹_› ?_|refine Cf ‹_› ?_|refine Ct rfl ?_|refine Cf rfl ?_|refine Bi rfl ?_|refine Bz rfl ?_|refine Lr ?_);conv=>whnf))
  (refine CallQ_some (F_mSizeB b h.gb) ?_ ?_ ?_; rfl; rfl); ((conv=>whnf);repeat((first|refine Ct ‹_› ?_|refine Cf ‹_› ?_|refine Ct rfl ?_|refine Cf rfl ?_|refine Bi rfl ?_|refine Bz rfl ?_|refine Lr ?_);conv=>whnf))
  refine CallQ_eq (show _ = [.one (roI p), vI 0, vI ((b.m.ter.length : Int) - 1)] by rw [wrapI (by omega)]) ?_
  (refine CallQ_some (F_l1All p 0 ((b.m.ter.length : Int) - 1) hp.len) ?_ ?_ ?_; rfl; rfl); ((conv=>whnf);repeat((first|refine Ct ‹_› ?_|refine Cf ‹_› ?_|refine Ct rfl ?_|refine Cf rfl ?_|refine Bi rfl ?_|refine Bz rfl ?_|refine Lr ?_);conv=>whnf))
  refine Cnd_i (fun g => ?_) (fun g => ?_)
  · have d : (p.all fun a => In a 0 ((b.m.ter.length : Int) - 1)) = false := by rwa [Bool.not_eq_true'] at g
    ((conv=>whnf);repeat((first|refine Ct ‹_› ?_|refine Cf ‹_› ?_|refine Ct rfl ?_|refine Cf rfl ?_|refine Bi rfl ?_|refine Bz rfl ?_|refine Lr ?_);conv=>whnf))
    rw [ckB_f (fun hh => by
      have hx := all_of_lt (q := fun a => In a 0 ((b.m.ter.length : Int) - 1)) (l := p) 0 (fun k hk => decide_eq_true (by have := (hh.2.2.2.2.2 k hk).1; omega))
      rw [hx] at d
      cases d)]
    exact ⟨rfl, rfl, rfl⟩
  have d4 : (p.all fun a => In a 0 ((b.m.ter.length : Int) - 1)) = true := by rwa [Bool.not_eq_false'] at g
  have hin : ∀ k : Nat, k < p.length → 0 ≤ p.getD k 0 ∧ p.getD k 0 < b.m.ter.length := by
    intro k hk
    have := of_decide_eq_true (List.all_eq_true.1 d4 (p.getD k 0) (by have := getD_mem (l := p) (i := (k : Int)) (by omega) (by omega); exact this))
    omega
  ((conv=>whnf);repeat((first|refine Ct ‹_› ?_|refine Cf ‹_› ?_|refine Ct rfl ?_|refine Cf rfl ?_|refine Bi rfl ?_|refine Bz rfl ?_|refine Lr ?_);conv=>whnf))
  refine Bnd_i (⟨by omega, by omega⟩) ?_; ((conv=>whnf);repeat((first|refine Ct ‹_› ?_|refine Cf ‹_› ?_|refine Ct rfl ?_|refine Cf rfl ?_|refine Bi rfl ?_|refine Bz rfl ?_|refine Lr ?_);conv=>whnf))
  (refine CallQ_some (F_l1Has F _ hF.len) ?_ ?_ ?_; rfl; rfl); ((conv=>whnf);repeat((first|refine Ct ‹_› ?_|refine Cf ‹_› ?_|refine Ct rfl ?_|refine Cf rfl ?_|refine Bi rfl ?_|refine Bz rfl ?_|refine Lr ?_);conv=>whnf))
  refine Cnd_i (fun g => ?_) (fun g => ?_)
  · have d : F.contains (p.getD 0 0) = false := by rwa [Bool.not_eq_true'] at g
    ((conv=>whnf);repeat((first|refine Ct ‹_› ?_|refine Cf ‹_› ?_|refine Ct rfl ?_|refine Cf rfl ?_|refine Bi rfl ?_|refine Bz rfl ?_|refine Lr ?_);conv=>whnf))
    rw [ckB_f (fun hh => by have := hh.2.2.2.1; rw [d] at this; cases this)]
    exact ⟨rfl, rfl, rfl⟩
  have d5 : F.contains (p.getD 0 0) = true := by rwa [Bool.not_eq_false'] at g
  ((conv=>whnf);repeat((first|refine Ct ‹_› ?_|refine Cf ‹_› ?_|refine Ct rfl ?_|refine Cf rfl ?_|refine Bi rfl ?_|refine Bz rfl ?_|refine Lr ?_);conv=>whnf))
  have hw : IntKind.i64.wrap ((p.length : Int) - 1) = ((p.length - 1 : Nat) : Int) := by rw [wrapI (by omega)]; omega
  refine Bnd_i (by rw [hw]; omega) ?_
  ((conv=>whnf);repeat((first|refine Ct ‹_› ?_|refine Cf ‹_› ?_|refine Ct rfl ?_|refine Cf rfl ?_|refine Bi rfl ?_|refine Bz rfl ?_|refine Lr ?_);conv=>whnf))
  refine Cnd_i (fun g => ?_) (fun g => ?_)
  · have d : ¬ p.getD (p.length - 1) 0 = u.at' := by
      have : ¬ p.getD (IntKind.i64.wrap ((p.length : Int) - 1)).toNat 0 = u.at' := by simpa using g
      rw [hw] at this; exact this
    ((conv=>whnf);repeat((first|refine Ct ‹_› ?_|refine Cf ‹_› ?_|refine Ct rfl ?_|refine Cf rfl ?_|refine Bi rfl ?_|refine Bz rfl ?_|refine Lr ?_);conv=>whnf))
    rw [ckB_f (fun hh => d hh.2.2.2.2.1)]
    exact ⟨rfl, rfl, rfl⟩
  have d6 : p.getD (p.length - 1) 0 = u.at' := by
    have : p.getD (IntKind.i64.wrap ((p.length : Int) - 1)).toNat 0 = u.at' := by simpa using g
    rw [hw] at this; exact this
  have hck : ckP b s u F p ↔ ∀ k : Nat, k < p.length → (0 ≤ p.getD k 0 ∧ p.getD k 0 < b.m.ter.length) ∧ opO (opBs b s u.side u.kind) (p.getD k 0) = true ∧ (k = 0 ∨ dsM b.m (p.getD (k - 1) 0) (p.getD k 0) = 1) :=
    ⟨fun hh => hh.2.2.2.2.2, fun hh => ⟨by omega, by omega, by omega, d5, d6, hh⟩⟩
  have hol := opBs_len b s u.side u.kind
  ((conv=>whnf);repeat((first|refine Ct ‹_› ?_|refine Cf ‹_› ?_|refine Ct rfl ?_|refine Cf rfl ?_|refine Bi rfl ?_|refine Bz rfl ?_|refine Lr ?_);conv=>whnf))
  (refine CallQ_some (F_jUnit b s h t t0 t1 F hF6) ?_ ?_ ?_; rfl; rfl); ((conv=>whnf);repeat((first|refine Ct ‹_› ?_|refine Cf ‹_› ?_|refine Ct rfl ?_|refine Cf rfl ?_|refine Bi rfl ?_|refine Bz rfl ?_|refine Lr ?_);conv=>whnf))
  rw [hu]
  have hfl := splB_len b s u.side u.kind F
  generalize hO : opBs b s u.side u.kind = O at hck hol ⊢
  refine WLoop_v ⟨[4, 5, 13, 82, 83, 84], [5], []⟩ (fun (q : Int) => hdS 123 [(4, .v (.one (roI p))), (5, .v (.one (.box 5 0))), (13, .v (.one (.own (vkey 13) O.length))), (82, .v (.one (roI p))), (83, .v (vI p.length)), (84, .v (vI q))] [(5, b.cs)] [(vkey 13, rwB O)])
    (fun n q => 0 ≤ q ∧ q + n = p.length ∧ ∀ k : Nat, (k : Int) < q → (0 ≤ p.getD k 0 ∧ p.getD k 0 < b.m.ter.length) ∧ opO O (p.getD k 0) = true ∧ (k = 0 ∨ dsM b.m (p.getD (k - 1) 0) (p.getD k 0) = 1)) p.length 0 rfl ⟨by omega, by omega, fun k hk => by omega⟩ ?_
  rintro n q ⟨q1, q2, q3⟩
  ((conv=>whnf);repeat((first|refine Ct ‹_› ?_|refine Cf ‹_› ?_|refine Ct rfl ?_|refine Cf rfl ?_|refine Bi rfl ?_|refine Bz rfl ?_|refine Lr ?_);conv=>whnf))
  refine Cnd_i (fun g => ?_) (fun g => ?_)
  rotate_left
  · have hq := of_decide_eq_false g
    ((conv=>whnf);repeat((first|refine Ct ‹_› ?_|refine Cf ‹_› ?_|refine Ct rfl ?_|refine Cf rfl ?_|refine Bi rfl ?_|refine Bz rfl ?_|refine Lr ?_);conv=>whnf))
    rw [ckB_t (hck.2 (fun k hk => q3 k (by omega)))]
    exact ⟨rfl, rfl, rfl⟩
  have hq := of_decide_eq_true g
  have hi := hin q.toNat (by omega)
  ((conv=>whnf);repeat((first|refine Ct ‹_› ?_|refine Cf ‹_› ?_|refine Ct rfl ?_|refine Cf rfl ?_|refine Bi rfl ?_|refine Bz rfl ?_|refine Lr ?_);conv=>whnf))
  refine Bnd_i (⟨q1, hq⟩) ?_; ((conv=>whnf);repeat((first|refine Ct ‹_› ?_|refine Cf ‹_› ?_|refine Ct rfl ?_|refine Cf rfl ?_|refine Bi rfl ?_|refine Bz rfl ?_|refine Lr ?_);conv=>whnf))
  refine WLoop_v2 ⟨[4, 5, 13, 15, 16, 17, 18, 82, 83, 84], [5], []⟩ (fun (nr : Bool) (d : Int) => hdS 123 [(4, .v (.one (roI p))), (5, .v (.one (.box 5 0))), (13, .v (.one (.own (vkey 13) O.length))), (15, .v (vI q)), (16, .v (vI (p.getD q.toNat 0))), (17, .v (vB nr)), (18, .v (vI d)), (82, .v (.one (roI p))), (83, .v (vI p.length)), (84, .v (vI q))] [(5, b.cs)] [(vkey 13, rwB O)])
    (fun n nr d => 0 ≤ d ∧ d + n = 6 ∧ (nr = true ↔ q = 0 ∨ ∃ e, 0 ≤ e ∧ e < d ∧ nx b.m (p.getD (q.toNat - 1) 0) e = p.getD q.toNat 0)) 6 (q == 0) 0 rfl ⟨by omega, by omega, ⟨fun hh => .inl (by simpa using hh), fun hh => hh.elim (fun h9 => by simpa using h9) (fun ⟨e, e1, e2, _⟩ => by omega)⟩⟩ ?_
  rintro l nr d ⟨d0, d1', d7⟩
  have hfin : ∀ (hall : q = 0 ∨ d = 6), (nr = true ↔ (q.toNat = 0 ∨ dsM b.m (p.getD (q.toNat - 1) 0) (p.getD q.toNat 0) = 1)) := by
    intro hall
    rw [d7]
    by_cases hq0 : q = 0
    · exact ⟨fun _ => .inl (by omega), fun _ => .inl hq0⟩
    · have hpr := hin (q.toNat - 1) (by omega)
      rw [ds_one h.gb.wh (by omega) (by omega)]
      constructor
      · rintro (h9 | ⟨e, e1, e2, e3⟩)
        · omega
        · exact .inr ⟨e, e1, by omega, e3⟩
      · rintro (h9 | ⟨e, e1, e2, e3⟩)
        · omega
        · exact .inr ⟨e, e1, by omega, e3⟩
  have htail : ∀ (nr' : Bool), True := fun _ => trivial
  ((conv=>whnf);repeat((first|refine Ct ‹_› ?_|refine Cf ‹_› ?_|refine Ct rfl ?_|refine Cf rfl ?_|refine Bi rfl ?_|refine Bz rfl ?_|refine Lr ?_);conv=>whnf))
  refine Cnd_i (fun g => ?_) (fun g => ?_)
  rotate_left
  · have hd := of_decide_eq_false g
    have hf := hfin (.inr (by omega))
    ((conv=>whnf);repeat((first|refine Ct ‹_› ?_|refine Cf ‹_› ?_|refine Ct rfl ?_|refine Cf rfl ?_|refine Bi rfl ?_|refine Bz rfl ?_|refine Lr ?_);conv=>whnf))
    refine Bnd_i (⟨by omega, by omega⟩) ?_; ((conv=>whnf);repeat((first|refine Ct ‹_› ?_|refine Cf ‹_› ?_|refine Ct rfl ?_|refine Cf rfl ?_|refine Bi rfl ?_|refine Bz rfl ?_|refine Lr ?_);conv=>whnf))
    refine Cnd_i (fun g8 => ?_) (fun g8 => ?_)
    · have d8 : O.getD (p.getD q.toNat 0).toNat false = false := by rwa [Bool.not_eq_true'] at g8
      ((conv=>whnf);repeat((first|refine Ct ‹_› ?_|refine Cf ‹_› ?_|refine Ct rfl ?_|refine Cf rfl ?_|refine Bi rfl ?_|refine Bz rfl ?_|refine Lr ?_);conv=>whnf))
      rw [ckB_f (fun hh => by have := (hck.1 hh q.toNat (by omega)).2.1; unfold opO at this; rw [d8] at this; cases this)]
      exact ⟨rfl, rfl, rfl⟩
    have d8 : O.getD (p.getD q.toNat 0).toNat false = true := by rwa [Bool.not_eq_false'] at g8
    ((conv=>whnf);repeat((first|refine Ct ‹_› ?_|refine Cf ‹_› ?_|refine Ct rfl ?_|refine Cf rfl ?_|refine Bi rfl ?_|refine Bz rfl ?_|refine Lr ?_);conv=>whnf))
    cases nr with
    | false =>
      ((conv=>whnf);repeat((first|refine Ct ‹_› ?_|refine Cf ‹_› ?_|refine Ct rfl ?_|refine Cf rfl ?_|refine Bi rfl ?_|refine Bz rfl ?_|refine Lr ?_);conv=>whnf))
      rw [ckB_f (fun hh => by have := hf.2 (hck.1 hh q.toNat (by omega)).2.2; cases this)]
      exact ⟨rfl, rfl, rfl⟩
    | true =>
      ((conv=>whnf);repeat((first|refine Ct ‹_› ?_|refine Cf ‹_› ?_|refine Ct rfl ?_|refine Cf rfl ?_|refine Bi rfl ?_|refine Bz rfl ?_|refine Lr ?_);conv=>whnf))
      refine ⟨n - 1, q + 1, ?_, by omega, by omega, by omega, fun k hk => ?_⟩
      · rw [wrapI (by omega)]; rfl
      · by_cases e9 : (k : Int) = q
        · rw [show k = q.toNat by omega]
          exact ⟨hi, d8, hf.1 rfl⟩
        · exact q3 k (by omega)
  have hd := of_decide_eq_true g
  ((conv=>whnf);repeat((first|refine Ct ‹_› ?_|refine Cf ‹_› ?_|refine Ct rfl ?_|refine Cf rfl ?_|refine Bi rfl ?_|refine Bz rfl ?_|refine Lr ?_);conv=>whnf))
  refine Cnd_i (fun g => ?_) (fun g => ?_)
  rotate_left
  · have hq0 := of_decide_eq_false g
    have hf := hfin (.inl (by omega))
    ((conv=>whnf);repeat((first|refine Ct ‹_› ?_|refine Cf ‹_› ?_|refine Ct rfl ?_|refine Cf rfl ?_|refine Bi rfl ?_|refine Bz rfl ?_|refine Lr ?_);conv=>whnf))
    refine Bnd_i (⟨by omega, by omega⟩) ?_; ((conv=>whnf);repeat((first|refine Ct ‹_› ?_|refine Cf ‹_› ?_|refine Ct rfl ?_|refine Cf rfl ?_|refine Bi rfl ?_|refine Bz rfl ?_|refine Lr ?_);conv=>whnf))
    refine Cnd_i (fun g8 => ?_) (fun g8 => ?_)
    · have d8 : O.getD (p.getD q.toNat 0).toNat false = false := by rwa [Bool.not_eq_true'] at g8
      ((conv=>whnf);repeat((first|refine Ct ‹_› ?_|refine Cf ‹_› ?_|refine Ct rfl ?_|refine Cf rfl ?_|refine Bi rfl ?_|refine Bz rfl ?_|refine Lr ?_);conv=>whnf))
      rw [ckB_f (fun hh => by have := (hck.1 hh q.toNat (by omega)).2.1; unfold opO at this; rw [d8] at this; cases this)]
      exact ⟨rfl, rfl, rfl⟩
    have d8 : O.getD (p.getD q.toNat 0).toNat false = true := by rwa [Bool.not_eq_false'] at g8
    ((conv=>whnf);repeat((first|refine Ct ‹_› ?_|refine Cf ‹_› ?_|refine Ct rfl ?_|refine Cf rfl ?_|refine Bi rfl ?_|refine Bz rfl ?_|refine Lr ?_);conv=>whnf))
    cases nr with
    | false =>
      ((conv=>whnf);repeat((first|refine Ct ‹_› ?_|refine Cf ‹_› ?_|refine Ct rfl ?_|refine Cf rfl ?_|refine Bi rfl ?_|refine Bz rfl ?_|refine Lr ?_);conv=>whnf))
      rw [ckB_f (fun hh => by have := hf.2 (hck.1 hh q.toNat (by omega)).2.2; cases this)]
      exact ⟨rfl, rfl, rfl⟩
    | true =>
      ((conv=>whnf);repeat((first|refine Ct ‹_› ?_|refine Cf ‹_› ?_|refine Ct rfl ?_|refine Cf rfl ?_|refine Bi rfl ?_|refine Bz rfl ?_|refine Lr ?_);conv=>whnf))
      refine ⟨n - 1, q + 1, ?_, by omega, by omega, by omega, fun k hk => ?_⟩
      · rw [wrapI (by omega)]; rfl
      · by_cases e9 : (k : Int) = q
        · rw [show k = q.toNat by omega]
          exact ⟨hi, d8, hf.1 rfl⟩
        · exact q3 k (by omega)
  have hq0 := of_decide_eq_true g
  have hpr := hin (q.toNat - 1) (by omega)
  ((conv=>whnf);repeat((first|refine Ct ‹_› ?_|refine Cf ‹_› ?_|refine Ct rfl ?_|refine Cf rfl ?_|refine Bi rfl ?_|refine Bz rfl ?_|refine Lr ?_);conv=>whnf))
  cases nr with
  | true =>
    ((conv=>whnf);repeat((first|refine Ct ‹_› ?_|refine Cf ‹_› ?_|refine Ct rfl ?_|refine Cf rfl ?_|refine Bi rfl ?_|refine Bz rfl ?_|refine Lr ?_);conv=>whnf))
    refine ⟨l - 1, true, d + 1, ?_, by omega, by omega, by omega, ⟨fun _ => (d7.1 rfl).elim .inl (fun ⟨e, e1, e2, e3⟩ => .inr ⟨e, e1, by omega, e3⟩), fun _ => rfl⟩⟩
    rw [wrapI (by omega)]; rfl
  | false =>
    have hw2 : IntKind.i64.wrap (q - 1) = q - 1 := wrapI (by omega)
    ((conv=>whnf);repeat((first|refine Ct ‹_› ?_|refine Cf ‹_› ?_|refine Ct rfl ?_|refine Cf rfl ?_|refine Bi rfl ?_|refine Bz rfl ?_|refine Lr ?_);conv=>whnf))
    refine Bnd_i (by rw [hw2]; omega) ?_
    ((conv=>whnf);repeat((first|refine Ct ‹_› ?_|refine Cf ‹_› ?_|refine Ct rfl ?_|refine Cf rfl ?_|refine Bi rfl ?_|refine Bz rfl ?_|refine Lr ?_);conv=>whnf))
    rw [hw2, show (q - 1).toNat = q.toNat - 1 by omega]
    (refine CallQ_some (F_mNext b.m h.gb.wh (p.getD (q.toNat - 1) 0) d hpr.1 (by omega) d0 (by omega)) ?_ ?_ ?_; rfl; rfl); ((conv=>whnf);repeat((first|refine Ct ‹_› ?_|refine Cf ‹_› ?_|refine Ct rfl ?_|refine Cf rfl ?_|refine Bi rfl ?_|refine Bz rfl ?_|refine Lr ?_);conv=>whnf))
    refine ⟨l - 1, (nx b.m (p.getD (q.toNat - 1) 0) d == p.getD q.toNat 0), d + 1, ?_, by omega, by omega, by omega, ?_⟩
    · rw [wrapI (n := d + 1) (by omega)]; rfl
    · rw [beq_iff_eq]
      constructor
      · intro h9; exact .inr ⟨d, d0, by omega, h9⟩
      · rintro (h9 | ⟨e, e1, e2, e3⟩)
        · omega
        · by_cases h8 : e = d
          · subst h8; exact e3
          · have := d7.2 (.inr ⟨e, e1, by omega, e3⟩)
            cases this

theorem F_CheckSupplyPathI (b : Brd) (ho : b.Ok) (s : Stt) (hs : s.Ok) (t : Int) (F : List Int) (hF : okL F) (p : List Int) (hp : okL p) :
    Fun E0 27 [.agg b.cs, .agg s.cs, vI t, .one (roI F), .one (roI p)] [] (.tup [vB (ckR b s t F p).1, vB (ckR b s t F p).2]) [] [] := by
  refine Fun_of_xc k27 rfl rfl (fun k q h => by cases h) ?_
  ((conv=>whnf);repeat((first|refine Ct ‹_› ?_|refine Cf ‹_› ?_|refine Ct rfl ?_|refine Cf rfl ?_|refine Bi rfl ?_|refine Bz rfl ?_|refine Lr ?_);conv=>whnf))
  (refine CallQ_some (F_isSupply b ho s hs t F hF) ?_ ?_ ?_; rfl; rfl); ((conv=>whnf);repeat((first|refine Ct ‹_› ?_|refine Cf ‹_› ?_|refine Ct rfl ?_|refine Cf rfl ?_|refine Bi rfl ?_|refine Bz rfl ?_|refine Lr ?_);conv=>whnf))
  refine Cnd_i (fun g => ?_) (fun g => ?_)
  · have e0 : okSu b s t F = false := by first | (rwa [Bool.not_eq_true'] at g) | (rwa [Bool.not_eq_false'] at g) | (simpa using g)
    ((conv=>whnf);repeat((first|refine Ct ‹_› ?_|refine Cf ‹_› ?_|refine Ct rfl ?_|refine Cf rfl ?_|refine Bi rfl ?_|refine Bz rfl ?_|refine Lr ?_);conv=>whnf))
    rw [ckR, e0]
    exact ⟨rfl, rfl, rfl⟩
  have e0 : okSu b s t F = true := by first | (rwa [Bool.not_eq_true'] at g) | (rwa [Bool.not_eq_false'] at g) | (simpa using g)
  obtain ⟨⟨h, t0, t1⟩, hF6⟩ := SuOk ho e0
  have hU := h.un _ (getD_memT (d := Unt.d) t0 t1)
  have hsp := h.gb.sup
  have hm := h.gb.wh.mul
  have hn := h.gb.n
  ((conv=>whnf);repeat((first|refine Ct ‹_› ?_|refine Cf ‹_› ?_|refine Ct rfl ?_|refine Cf rfl ?_|refine Bi rfl ?_|refine Bz rfl ?_|refine Lr ?_);conv=>whnf))
  refine Bnd_i (⟨t0, t1⟩) ?_; ((conv=>whnf);repeat((first|refine Ct ‹_› ?_|refine Cf ‹_› ?_|refine Ct rfl ?_|refine Cf rfl ?_|refine Bi rfl ?_|refine Bz rfl ?_|refine Lr ?_);conv=>whnf))
  generalize hu : s.un.getD t.toNat Unt.d = u at hU ⊢
  have hR : ckR b s t F p = (ckB b s u F p, true) := by rw [ckR, e0, hu]; rfl
  rw [hR]
  refine Cnd_i (fun g => ?_) (fun g => ?_)
  · have d := of_decide_eq_true g
    ((conv=>whnf);repeat((first|refine Ct ‹_› ?_|refine Cf ‹_› ?_|refine Ct rfl ?_|refine Cf rfl ?_|refine Bi rfl ?_|refine Bz rfl ?_|refine Lr ?_);conv=>whnf))
    rw [ckB_f (fun hh => by have := hh.1; omega)]
    exact ⟨rfl, rfl, rfl⟩
  have d1 := of_decide_eq_false g
  have ha := hU.at'
  ((conv=>whnf);repeat((first|refine Ct ‹_› ?_|refine Cf ‹_› ?_|refine Ct rfl ?_|refine Cf rfl ?_|refine Bi rfl ?_|refine Bz rfl ?_|refine Lr ?_);conv=>whnf))
  refine Cnd_i (fun g => ?_) (fun g => ?_)
  · have d : (p.length : Int) = 0 := by simpa using g
    ((conv=>whnf);repeat((first|refine Ct ‹_› ?_|refine Cf ‹_› ?_|refine Ct rfl ?_|refine Cf rfl ?_|refine Bi rfl ?_|refine Bz rfl ?_|refine Lr ?_);conv=>whnf))
    rw [ckB_f (fun hh => by have := hh.2.1; omega)]
    exact ⟨rfl, rfl, rfl⟩
  have d2 : ¬ (p.length : Int) = 0 := by simpa using g
  ((conv=>whnf);repeat((first|refine Ct ‹_› ?_|refine Cf ‹_› ?_|refine Ct rfl ?_|refine Cf rfl ?_|refine Bi rfl ?_|refine Bz rfl ?_|refine Lr ?_);conv=>whnf))
  refine Cnd_i (fun g => ?_) (fun g => ?_)
  · have d := of_decide_eq_true g
    rw [wrapI (by omega)] at d
    ((conv=>whnf);repeat((first|refine Ct ‹_› ?_|refine Cf ‹_› ?_|refine Ct rfl ?_|refine Cf rfl ?_|refine Bi rfl ?_|refine Bz rfl ?_|refine Lr ?_);conv=>whnf))
    rw [ckB_f (fun hh => by have := hh.2.2.1; omega)]
    exact ⟨rfl, rfl, rfl⟩
  have d3 := of_decide_eq_false g
  rw [wrapI (by omega)] at d3
  ((conv=>whnf);repeat((first|refine Ct ‹_› ?_|refine Cf ‹_› ?_|refine Ct rfl ?_|refine Cf rfl ?_|refine Bi rfl ?_|refine Bz rfl ?_|refine Lr ?_);conv=>whnf))
  refine Bnd_i (⟨by omega, by omega⟩) ?_; ((conv=>whnf);repeat((first|refine Ct ‹_› ?_|refine Cf ‹_› ?_|refine Ct rfl ?_|refine Cf rfl ?_|refine Bi rfl ?_|refine Bz rfl ?_|refine Lr ?_);conv=>whnf))
  (refine CallQ_some (F_Contains F _ hF.len) ?_ ?_ ?_; rfl; rfl); ((conv=>whnf);repeat((first|refine Ct ‹_› ?_|refine Cf ‹_› ?_|refine Ct rfl ?_|refine Cf rfl ?_|refine Bi rfl ?_|refine Bz rfl ?_|refine Lr ?_);conv=>whnf))
  refine Cnd_i (fun g => ?_) (fun g => ?_)
  · have d : F.contains (p.getD 0 0) = false := by rwa [Bool.not_eq_true'] at g
    ((conv=>whnf);repeat((first|refine Ct ‹_› ?_|refine Cf ‹_› ?_|refine Ct rfl ?_|refine Cf rfl ?_|refine Bi rfl ?_|refine Bz rfl ?_|refine Lr ?_);conv=>whnf))
    rw [ckB_f (fun hh => by have := hh.2.2.2.1; rw [d] at this; cases this)]
    exact ⟨rfl, rfl, rfl⟩
  have d5 : F.contains (p.getD 0 0) = true := by rwa [Bool.not_eq_false'] at g
  ((conv=>whnf);repeat((first|refine Ct ‹_› ?_|refine Cf ‹_› ?_|refine Ct rfl ?_|refine Cf rfl ?_|refine Bi rfl ?_|refine Bz rfl ?_|refine Lr ?_);conv=>whnf))
  have hw : IntKind.i64.wrap ((p.length : Int) - 1) = ((p.length - 1 : Nat) : Int) := by rw [wrapI (by omega)]; omega
  refine Bnd_i (by rw [hw]; omega) ?_
  ((conv=>whnf);repeat((first|refine Ct ‹_› ?_|refine Cf ‹_› ?_|refine Ct rfl ?_|refine Cf rfl ?_|refine Bi rfl ?_|refine Bz rfl ?_|refine Lr ?_);conv=>whnf))
  refine Cnd_i (fun g => ?_) (fun g => ?_)
  · have d : ¬ p.getD (p.length - 1) 0 = u.at' := by
      have : ¬ p.getD (IntKind.i64.wrap ((p.length : Int) - 1)).toNat 0 = u.at' := by simpa using g
      rw [hw] at this; exact this
    ((conv=>whnf);repeat((first|refine Ct ‹_› ?_|refine Cf ‹_› ?_|refine Ct rfl ?_|refine Cf rfl ?_|refine Bi rfl ?_|refine Bz rfl ?_|refine Lr ?_);conv=>whnf))
    rw [ckB_f (fun hh => d hh.2.2.2.2.1)]
    exact ⟨rfl, rfl, rfl⟩
  have d6 : p.getD (p.length - 1) 0 = u.at' := by
    have : p.getD (IntKind.i64.wrap ((p.length : Int) - 1)).toNat 0 = u.at' := by simpa using g
    rw [hw] at this; exact this
  have hck : ckP b s u F p ↔ ∀ k : Nat, k < p.length → (0 ≤ p.getD k 0 ∧ p.getD k 0 < b.m.ter.length) ∧ opO (opBs b s u.side u.kind) (p.getD k 0) = true ∧ (k = 0 ∨ dsM b.m (p.getD (k - 1) 0) (p.getD k 0) = 1) :=
    ⟨fun hh => hh.2.2.2.2.2, fun hh => ⟨by omega, by omega, by omega, d5, d6, hh⟩⟩
  have hol := opBs_len b s u.side u.kind
  ((conv=>whnf);repeat((first|refine Ct ‹_› ?_|refine Cf ‹_› ?_|refine Ct rfl ?_|refine Cf rfl ?_|refine Bi rfl ?_|refine Bz rfl ?_|refine Lr ?_);conv=>whnf))
  (refine CallQ_some (F_openFor b s h u.side u.kind hU.sd hU.kind) ?_ ?_ ?_; rfl; rfl); ((conv=>whnf);repeat((first|refine Ct ‹_› ?_|refine Cf ‹_› ?_|refine Ct rfl ?_|refine Cf rfl ?_|refine Bi rfl ?_|refine Bz rfl ?_|refine Lr ?_);conv=>whnf))
  generalize hO : opBs b s u.side u.kind = O at hck hol ⊢
  refine WLoop_v ⟨[4, 5, 13, 70, 71, 72], [5], []⟩ (fun (q : Int) => hdS 110 [(4, .v (.one (roI p))), (5, .v (.one (.box 5 0))), (13, .v (.one (.own (vkey 13) O.length))), (70, .v (.one (roI p))), (71, .v (vI p.length)), (72, .v (vI q))] [(5, b.cs)] [(vkey 13, rwB O)])
    (fun n q => 0 ≤ q ∧ q + n = p.length ∧ ∀ k : Nat, (k : Int) < q → (0 ≤ p.getD k 0 ∧ p.getD k 0 < b.m.ter.length) ∧ opO O (p.getD k 0) = true ∧ (k = 0 ∨ dsM b.m (p.getD (k - 1) 0) (p.getD k 0) = 1)) p.length 0 rfl ⟨by omega, by omega, fun k hk => by omega⟩ ?_
  rintro n q ⟨q1, q2, q3⟩
  ((conv=>whnf);repeat((first|refine Ct ‹_› ?_|refine Cf ‹_› ?_|refine Ct rfl ?_|refine Cf rfl ?_|refine Bi rfl ?_|refine Bz rfl ?_|refine Lr ?_);conv=>whnf))
  refine Cnd_i (fun g => ?_) (fun g => ?_)
  rotate_left
  · have hq := of_decide_eq_false g
    ((conv=>whnf);repeat((first|refine Ct ‹_› ?_|refine Cf ‹_› ?_|refine Ct rfl ?_|refine Cf rfl ?_|refine Bi rfl ?_|refine Bz rfl ?_|refine Lr ?_);conv=>whnf))
    rw [ckB_t (hck.2 (fun k hk => q3 k (by omega)))]
    exact ⟨rfl, rfl, rfl⟩
  have hq := of_decide_eq_true g
  ((conv=>whnf);repeat((first|refine Ct ‹_› ?_|refine Cf ‹_› ?_|refine Ct rfl ?_|refine Cf rfl ?_|refine Bi rfl ?_|refine Bz rfl ?_|refine Lr ?_);conv=>whnf))
  refine Bnd_i (⟨q1, hq⟩) ?_; ((conv=>whnf);repeat((first|refine Ct ‹_› ?_|refine Cf ‹_› ?_|refine Ct rfl ?_|refine Cf rfl ?_|refine Bi rfl ?_|refine Bz rfl ?_|refine Lr ?_);conv=>whnf))
  (refine CallQ_some (F_sizeOf b) ?_ ?_ ?_; rfl; rfl); ((conv=>whnf);repeat((first|refine Ct ‹_› ?_|refine Cf ‹_› ?_|refine Ct rfl ?_|refine Cf rfl ?_|refine Bi rfl ?_|refine Bz rfl ?_|refine Lr ?_);conv=>whnf))
  (refine CallQ_some (F_isIndex (p.getD q.toNat 0) b.m.ter.length ⟨by unfold i64; omega, by omega⟩) ?_ ?_ ?_; rfl; rfl); ((conv=>whnf);repeat((first|refine Ct ‹_› ?_|refine Cf ‹_› ?_|refine Ct rfl ?_|refine Cf rfl ?_|refine Bi rfl ?_|refine Bz rfl ?_|refine Lr ?_);conv=>whnf))
  refine Cnd_i (fun g7 => ?_) (fun g7 => ?_)
  · have d7 : In (p.getD q.toNat 0) 0 ((b.m.ter.length : Int) - 1) = false := by rwa [Bool.not_eq_true'] at g7
    have d7 := of_decide_eq_false d7
    ((conv=>whnf);repeat((first|refine Ct ‹_› ?_|refine Cf ‹_› ?_|refine Ct rfl ?_|refine Cf rfl ?_|refine Bi rfl ?_|refine Bz rfl ?_|refine Lr ?_);conv=>whnf))
    rw [ckB_f (fun hh => by have := (hck.1 hh q.toNat (by omega)).1; omega)]
    exact ⟨rfl, rfl, rfl⟩
  have d7 : In (p.getD q.toNat 0) 0 ((b.m.ter.length : Int) - 1) = true := by rwa [Bool.not_eq_false'] at g7
  have d7 := of_decide_eq_true d7
  ((conv=>whnf);repeat((first|refine Ct ‹_› ?_|refine Cf ‹_› ?_|refine Ct rfl ?_|refine Cf rfl ?_|refine Bi rfl ?_|refine Bz rfl ?_|refine Lr ?_);conv=>whnf))
  refine Bnd_i (⟨by omega, by omega⟩) ?_; ((conv=>whnf);repeat((first|refine Ct ‹_› ?_|refine Cf ‹_› ?_|refine Ct rfl ?_|refine Cf rfl ?_|refine Bi rfl ?_|refine Bz rfl ?_|refine Lr ?_);conv=>whnf))
  refine Cnd_i (fun g8 => ?_) (fun g8 => ?_)
  · have d8 : O.getD (p.getD q.toNat 0).toNat false = false := by rwa [Bool.not_eq_true'] at g8
    ((conv=>whnf);repeat((first|refine Ct ‹_› ?_|refine Cf ‹_› ?_|refine Ct rfl ?_|refine Cf rfl ?_|refine Bi rfl ?_|refine Bz rfl ?_|refine Lr ?_);conv=>whnf))
    rw [ckB_f (fun hh => by have := (hck.1 hh q.toNat (by omega)).2.1; unfold opO at this; rw [d8] at this; cases this)]
    exact ⟨rfl, rfl, rfl⟩
  have d8 : O.getD (p.getD q.toNat 0).toNat false = true := by rwa [Bool.not_eq_false'] at g8
  have hnext : (q.toNat = 0 ∨ dsM b.m (p.getD (q.toNat - 1) 0) (p.getD q.toNat 0) = 1) → ∀ k : Nat, (k : Int) < q + 1 → (0 ≤ p.getD k 0 ∧ p.getD k 0 < b.m.ter.length) ∧ opO O (p.getD k 0) = true ∧ (k = 0 ∨ dsM b.m (p.getD (k - 1) 0) (p.getD k 0) = 1) := by
    intro h9 k hk
    by_cases e9 : (k : Int) = q
    · rw [show k = q.toNat by omega]
      exact ⟨by omega, d8, h9⟩
    · exact q3 k (by omega)
  ((conv=>whnf);repeat((first|refine Ct ‹_› ?_|refine Cf ‹_› ?_|refine Ct rfl ?_|refine Cf rfl ?_|refine Bi rfl ?_|refine Bz rfl ?_|refine Lr ?_);conv=>whnf))
  refine Cnd_i (fun g9 => ?_) (fun g9 => ?_)
  rotate_left
  · have d9 := of_decide_eq_false g9
    ((conv=>whnf);repeat((first|refine Ct ‹_› ?_|refine Cf ‹_› ?_|refine Ct rfl ?_|refine Cf rfl ?_|refine Bi rfl ?_|refine Bz rfl ?_|refine Lr ?_);conv=>whnf))
    refine ⟨n - 1, q + 1, ?_, by omega, by omega, by omega, hnext (.inl (by omega))⟩
    rw [wrapI (by omega)]; rfl
  have d9 := of_decide_eq_true g9
  have hpr := (q3 (q.toNat - 1) (by omega)).1
  have hw2 : IntKind.i64.wrap (q - 1) = q - 1 := wrapI (by omega)
  ((conv=>whnf);repeat((first|refine Ct ‹_› ?_|refine Cf ‹_› ?_|refine Ct rfl ?_|refine Cf rfl ?_|refine Bi rfl ?_|refine Bz rfl ?_|refine Lr ?_);conv=>whnf))
  refine Bnd_i (by rw [hw2]; omega) ?_
  ((conv=>whnf);repeat((first|refine Ct ‹_› ?_|refine Cf ‹_› ?_|refine Ct rfl ?_|refine Cf rfl ?_|refine Bi rfl ?_|refine Bz rfl ?_|refine Lr ?_);conv=>whnf))
  rw [hw2, show (q - 1).toNat = q.toNat - 1 by omega]
  (refine CallQ_some (F_hexOf b.m h.gb.wh _ hpr.1 (by omega)) ?_ ?_ ?_; rfl; rfl); ((conv=>whnf);repeat((first|refine Ct ‹_› ?_|refine Cf ‹_› ?_|refine Ct rfl ?_|refine Cf rfl ?_|refine Bi rfl ?_|refine Bz rfl ?_|refine Lr ?_);conv=>whnf))
  (refine CallQ_some (F_hexOf b.m h.gb.wh _ d7.1 (by omega)) ?_ ?_ ?_; rfl; rfl); ((conv=>whnf);repeat((first|refine Ct ‹_› ?_|refine Cf ‹_› ?_|refine Ct rfl ?_|refine Cf rfl ?_|refine Bi rfl ?_|refine Bz rfl ?_|refine Lr ?_);conv=>whnf))
  (refine CallQ_some (F_distance _ _ _ _ (hx_b h.gb.wh hpr.1 (by omega)) (hx_b h.gb.wh d7.1 (by omega))) ?_ ?_ ?_; rfl; rfl); ((conv=>whnf);repeat((first|refine Ct ‹_› ?_|refine Cf ‹_› ?_|refine Ct rfl ?_|refine Cf rfl ?_|refine Bi rfl ?_|refine Bz rfl ?_|refine Lr ?_);conv=>whnf))
  refine Cnd_i (fun g6 => ?_) (fun g6 => ?_)
  · have d : ¬ dsM b.m (p.getD (q.toNat - 1) 0) (p.getD q.toNat 0) = 1 := by unfold dsM; simpa using g6
    ((conv=>whnf);repeat((first|refine Ct ‹_› ?_|refine Cf ‹_› ?_|refine Ct rfl ?_|refine Cf rfl ?_|refine Bi rfl ?_|refine Bz rfl ?_|refine Lr ?_);conv=>whnf))
    rw [ckB_f (fun hh => by have := (hck.1 hh q.toNat (by omega)).2.2; exact this.elim (fun h5 => by omega) d)]
    exact ⟨rfl, rfl, rfl⟩
  · have d : dsM b.m (p.getD (q.toNat - 1) 0) (p.getD q.toNat 0) = 1 := by unfold dsM; simpa using g6
    ((conv=>whnf);repeat((first|refine Ct ‹_› ?_|refine Cf ‹_› ?_|refine Ct rfl ?_|refine Cf rfl ?_|refine Bi rfl ?_|refine Bz rfl ?_|refine Lr ?_);conv=>whnf))
    refine ⟨n - 1, q + 1, ?_, by omega, by omega, by omega, hnext (.inr d)⟩
    rw [wrapI (by omega)]; rfl

theorem F_FnExactCheckSupplyPath (x0 : Brd) (x1 : Stt) (x2 : Int) (x3 : List Int) (x4 : List Int) (o0 : x0.Ok) (o1 : x1.Ok) (o2 : i64 x2) (o3 : okL x3) (o4 : okL x4) :
    Fun E0 6 [.agg x0.cs, .agg x1.cs, vI x2, .one (roI x3), .one (roI x4)] [] (.v (vB true)) [] [] := by
  have hS := F_CheckSupplyPath x0 o0 x1 o1 x2 x3 o3 x4 o4
  have hI := F_CheckSupplyPathI x0 o0 x1 o1 x2 x3 o3 x4 o4
  revert hS hI
  generalize ckR x0 x1 x2 x3 x4 = RR
  obtain ⟨r0, r1⟩ := RR
  intro hS hI
  dsimp only at hS
  dsimp only at hI
  refine Fun_of_xc k6 rfl rfl (fun k q h => by cases h) ?_
  ((conv=>whnf);repeat((first|refine Ct ‹_› ?_|refine Cf ‹_› ?_|refine Ct rfl ?_|refine Cf rfl ?_|refine Bi rfl ?_|refine Bz rfl ?_|refine Lr ?_);conv=>whnf))
  refine Cnd_i (fun g => ?_) (fun g => ?_)
  · ((conv=>whnf);repeat((first|refine Ct ‹_› ?_|refine Cf ‹_› ?_|refine Ct rfl ?_|refine Cf rfl ?_|refine Bi rfl ?_|refine Bz rfl ?_|refine Lr ?_);conv=>whnf))
    exact ⟨rfl, rfl, rfl⟩
  have l3 : x3.length ≤ 1048576 := by have := of_decide_eq_false g; omega
  ((conv=>whnf);repeat((first|refine Ct ‹_› ?_|refine Cf ‹_› ?_|refine Ct rfl ?_|refine Cf rfl ?_|refine Bi rfl ?_|refine Bz rfl ?_|refine Lr ?_);conv=>whnf))
  refine Cnd_i (fun g => ?_) (fun g => ?_)
  · ((conv=>whnf);repeat((first|refine Ct ‹_› ?_|refine Cf ‹_› ?_|refine Ct rfl ?_|refine Cf rfl ?_|refine Bi rfl ?_|refine Bz rfl ?_|refine Lr ?_);conv=>whnf))
    exact ⟨rfl, rfl, rfl⟩
  have l4 : x4.length ≤ 1048576 := by have := of_decide_eq_false g; omega
  ((conv=>whnf);repeat((first|refine Ct ‹_› ?_|refine Cf ‹_› ?_|refine Ct rfl ?_|refine Cf rfl ?_|refine Bi rfl ?_|refine Bz rfl ?_|refine Lr ?_);conv=>whnf))
  (refine CallQ_some (F_szBoard x0 o0 1048576 (by omega) (by omega)) ?_ ?_ ?_; rfl; rfl); ((conv=>whnf);repeat((first|refine Ct ‹_› ?_|refine Cf ‹_› ?_|refine Ct rfl ?_|refine Cf rfl ?_|refine Bi rfl ?_|refine Bz rfl ?_|refine Lr ?_);conv=>whnf))
  refine Cnd_i (fun g => ?_) (fun g => ?_)
  · ((conv=>whnf);repeat((first|refine Ct ‹_› ?_|refine Cf ‹_› ?_|refine Ct rfl ?_|refine Cf rfl ?_|refine Bi rfl ?_|refine Bz rfl ?_|refine Lr ?_);conv=>whnf))
    exact ⟨rfl, rfl, rfl⟩
  have sm0 := szB_sm (b := x0) (x := 1048576) (by omega) (by omega) (of_decide_eq_false g)
  have s0 := sm0.1
  have sb0 := sm0.2
  have sc0 := of_decide_eq_false g
  ((conv=>whnf);repeat((first|refine Ct ‹_› ?_|refine Cf ‹_› ?_|refine Ct rfl ?_|refine Cf rfl ?_|refine Bi rfl ?_|refine Bz rfl ?_|refine Lr ?_);conv=>whnf))
  (refine CallQ_some (F_szState x1 o1 (szB x0 1048576) (by omega) (by omega)) ?_ ?_ ?_; rfl; rfl); ((conv=>whnf);repeat((first|refine Ct ‹_› ?_|refine Cf ‹_› ?_|refine Ct rfl ?_|refine Cf rfl ?_|refine Bi rfl ?_|refine Bz rfl ?_|refine Lr ?_);conv=>whnf))
  refine Cnd_i (fun g => ?_) (fun g => ?_)
  · ((conv=>whnf);repeat((first|refine Ct ‹_› ?_|refine Cf ‹_› ?_|refine Ct rfl ?_|refine Cf rfl ?_|refine Bi rfl ?_|refine Bz rfl ?_|refine Lr ?_);conv=>whnf))
    exact ⟨rfl, rfl, rfl⟩
  have sm1 := szSt_sm (s := x1) (x := szB x0 1048576) (by omega) (by omega) (of_decide_eq_false g)
  have s1 := sm1.1
  have sb1 := sm1.2
  have sc1 := of_decide_eq_false g
  have u1 := s1.un
  ((conv=>whnf);repeat((first|refine Ct ‹_› ?_|refine Cf ‹_› ?_|refine Ct rfl ?_|refine Cf rfl ?_|refine Bi rfl ?_|refine Bz rfl ?_|refine Lr ?_);conv=>whnf))
  (refine CallQ_some (F_toBoard x0 s0) ?_ ?_ ?_; rfl; rfl); ((conv=>whnf);repeat((first|refine Ct ‹_› ?_|refine Cf ‹_› ?_|refine Ct rfl ?_|refine Cf rfl ?_|refine Bi rfl ?_|refine Bz rfl ?_|refine Lr ?_);conv=>whnf))
  (refine CallQ_some (F_toState x1 s1) ?_ ?_ ?_; rfl; rfl); ((conv=>whnf);repeat((first|refine Ct ‹_› ?_|refine Cf ‹_› ?_|refine Ct rfl ?_|refine Cf rfl ?_|refine Bi rfl ?_|refine Bz rfl ?_|refine Lr ?_);conv=>whnf))
  (refine CallQ_some (F_toIntS x3 l3) ?_ ?_ ?_; rfl; rfl); ((conv=>whnf);repeat((first|refine Ct ‹_› ?_|refine Cf ‹_› ?_|refine Ct rfl ?_|refine Cf rfl ?_|refine Bi rfl ?_|refine Bz rfl ?_|refine Lr ?_);conv=>whnf))
  (refine CallQ_some (F_toIntS x4 l4) ?_ ?_ ?_; rfl; rfl); ((conv=>whnf);repeat((first|refine Ct ‹_› ?_|refine Cf ‹_› ?_|refine Ct rfl ?_|refine Cf rfl ?_|refine Bi rfl ?_|refine Bz rfl ?_|refine Lr ?_);conv=>whnf))
  refine CallQ_eq (snapBS x0 x1 _) ?_
  (refine CallQ_some (hS) ?_ ?_ ?_; rfl; rfl); ((conv=>whnf);repeat((first|refine Ct ‹_› ?_|refine Cf ‹_› ?_|refine Ct rfl ?_|refine Cf rfl ?_|refine Bi rfl ?_|refine Bz rfl ?_|refine Lr ?_);conv=>whnf))
  (refine CallQ_some (F_toBoard x0 s0) ?_ ?_ ?_; rfl; rfl); ((conv=>whnf);repeat((first|refine Ct ‹_› ?_|refine Cf ‹_› ?_|refine Ct rfl ?_|refine Cf rfl ?_|refine Bi rfl ?_|refine Bz rfl ?_|refine Lr ?_);conv=>whnf))
  (refine CallQ_some (F_toState x1 s1) ?_ ?_ ?_; rfl; rfl); ((conv=>whnf);repeat((first|refine Ct ‹_› ?_|refine Cf ‹_› ?_|refine Ct rfl ?_|refine Cf rfl ?_|refine Bi rfl ?_|refine Bz rfl ?_|refine Lr ?_);conv=>whnf))
  (refine CallQ_some (F_toIntS x3 l3) ?_ ?_ ?_; rfl; rfl); ((conv=>whnf);repeat((first|refine Ct ‹_› ?_|refine Cf ‹_› ?_|refine Ct rfl ?_|refine Cf rfl ?_|refine Bi rfl ?_|refine Bz rfl ?_|refine Lr ?_);conv=>whnf))
  (refine CallQ_some (F_toIntS x4 l4) ?_ ?_ ?_; rfl; rfl); ((conv=>whnf);repeat((first|refine Ct ‹_› ?_|refine Cf ‹_› ?_|refine Ct rfl ?_|refine Cf rfl ?_|refine Bi rfl ?_|refine Bz rfl ?_|refine Lr ?_);conv=>whnf))
  refine CallQ_eq (snapBS x0 x1 _) ?_
  (refine CallQ_some (hI) ?_ ?_ ?_; rfl; rfl); ((conv=>whnf);repeat((first|refine Ct ‹_› ?_|refine Cf ‹_› ?_|refine Ct rfl ?_|refine Cf rfl ?_|refine Bi rfl ?_|refine Bz rfl ?_|refine Lr ?_);conv=>whnf))
  repeat (refine Cnd_f (by simp) ?_; ((conv=>whnf);repeat((first|refine Ct ‹_› ?_|refine Cf ‹_› ?_|refine Ct rfl ?_|refine Cf rfl ?_|refine Bi rfl ?_|refine Bz rfl ?_|refine Lr ?_);conv=>whnf)))
  repeat (refine Cnd_f (by simp) ?_; ((conv=>whnf);repeat((first|refine Ct ‹_› ?_|refine Cf ‹_› ?_|refine Ct rfl ?_|refine Cf rfl ?_|refine Bi rfl ?_|refine Bz rfl ?_|refine Lr ?_);conv=>whnf)))
  repeat (refine Cnd_f (by simp) ?_; ((conv=>whnf);repeat((first|refine Ct ‹_› ?_|refine Cf ‹_› ?_|refine Ct rfl ?_|refine Cf rfl ?_|refine Bi rfl ?_|refine Bz rfl ?_|refine Lr ?_);conv=>whnf)))
  (refine CallQ_some (F_toBoard x0 s0) ?_ ?_ ?_; rfl; rfl); ((conv=>whnf);repeat((first|refine Ct ‹_› ?_|refine Cf ‹_› ?_|refine Ct rfl ?_|refine Cf rfl ?_|refine Bi rfl ?_|refine Bz rfl ?_|refine Lr ?_);conv=>whnf))
  refine CallQ_eq (snapBB x0) ?_
  (refine CallQ_some (F_eqBoard x0 s0) ?_ ?_ ?_; rfl; rfl); ((conv=>whnf);repeat((first|refine Ct ‹_› ?_|refine Cf ‹_› ?_|refine Ct rfl ?_|refine Cf rfl ?_|refine Bi rfl ?_|refine Bz rfl ?_|refine Lr ?_);conv=>whnf))
  (refine CallQ_some (F_toState x1 s1) ?_ ?_ ?_; rfl; rfl); ((conv=>whnf);repeat((first|refine Ct ‹_› ?_|refine Cf ‹_› ?_|refine Ct rfl ?_|refine Cf rfl ?_|refine Bi rfl ?_|refine Bz rfl ?_|refine Lr ?_);conv=>whnf))
  refine CallQ_eq (snapSS x1) ?_
  (refine CallQ_some (F_eqState x1 s1) ?_ ?_ ?_; rfl; rfl); ((conv=>whnf);repeat((first|refine Ct ‹_› ?_|refine Cf ‹_› ?_|refine Ct rfl ?_|refine Cf rfl ?_|refine Bi rfl ?_|refine Bz rfl ?_|refine Lr ?_);conv=>whnf))
  (refine CallQ_some (F_toIntS x3 l3) ?_ ?_ ?_; rfl; rfl); ((conv=>whnf);repeat((first|refine Ct ‹_› ?_|refine Cf ‹_› ?_|refine Ct rfl ?_|refine Cf rfl ?_|refine Bi rfl ?_|refine Bz rfl ?_|refine Lr ?_);conv=>whnf))
  (refine CallQ_some (F_eqIntS x3 l3) ?_ ?_ ?_; rfl; rfl); ((conv=>whnf);repeat((first|refine Ct ‹_› ?_|refine Cf ‹_› ?_|refine Ct rfl ?_|refine Cf rfl ?_|refine Bi rfl ?_|refine Bz rfl ?_|refine Lr ?_);conv=>whnf))
  (refine CallQ_some (F_toIntS x4 l4) ?_ ?_ ?_; rfl; rfl); ((conv=>whnf);repeat((first|refine Ct ‹_› ?_|refine Cf ‹_› ?_|refine Ct rfl ?_|refine Cf rfl ?_|refine Bi rfl ?_|refine Bz rfl ?_|refine Lr ?_);conv=>whnf))
  (refine CallQ_some (F_eqIntS x4 l4) ?_ ?_ ?_; rfl; rfl); ((conv=>whnf);repeat((first|refine Ct ‹_› ?_|refine Cf ‹_› ?_|refine Ct rfl ?_|refine Cf rfl ?_|refine Bi rfl ?_|refine Bz rfl ?_|refine Lr ?_);conv=>whnf))
  exact ⟨rfl, rfl, rfl⟩
end Go.Proofs.YtjnpnpkjmlihdaaGreatDoor.Ab
