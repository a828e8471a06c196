/- Contracts of the functions that FnExactCountCheapest reaches, by the abstract machine (part 3).
   Conditions: none. -/
import Derived.Test.YtjnpnpkjmlihdaaDoorCCountCheapest2
set_option linter.unusedVariables false
set_option linter.unusedSimpArgs false
namespace Go.Proofs.YtjnpnpkjmlihdaaDoor.Ab
open Go Go.RowKit
attribute [local irreducible] Cnd Bnd Rw CallQ CallR CallRX Bts Isn Lc WLoop
set_option maxRecDepth 100000
set_option maxHeartbeats 1000000
/-- a count that stops at 10^9 + 1 -/
def satI (a : Nat) : Int := if (a : Int) > 1000000001 then 1000000001 else a

theorem satI_b (a : Nat) : 0 ≤ satI a ∧ satI a ≤ 1000000001 := by unfold satI; split <;> omega

theorem satI_add (a b : Nat) : (if (1000000001 : Int) < satI a + satI b then 1000000001 else satI a + satI b) = satI (a + b) := by
  unfold satI; repeat' split
  all_goals omega

theorem satI_zero {a : Nat} (h : satI a = 0) : a = 0 := by
  unfold satI at h; split at h <;> omega

theorem stp_ok {b : Brd} (h : GB b) {k w : Int} (k0 : 0 ≤ k ∧ k < b.r.knd.length) (w0 : 0 ≤ w ∧ w ≤ 2) : StpOk (bCo b k w) (nx b.m) b.m.ter.length := by
  intro x d x0 x1 d0 d5 hc
  have hb := stepC_b h (i := x) (d := d) k0 w0
  have hc : 0 < stepC b k x d w := hc
  exact hb.2.2 (by omega)

theorem fr_ok {b : Brd} (h : GB b) {k w i : Int} (k0 : 0 ≤ k ∧ k < b.r.knd.length) (w0 : 0 ≤ w ∧ w ≤ 2) (i0 : 0 ≤ i ∧ i < b.m.ter.length) : FrOk (bCo b k w) (nx b.m) b.m.ter.length i (el (dL b k w i [] false)) := by
  have hd := dL_ok h k0 w0 i0 [] false
  refine ⟨stp_ok h k0 w0, i0, ?_, fun x d x0 x1 d0 d5 hc hx => ?_⟩
  · have := hd.lst i.toNat 0 (by omega) (by rw [show ((i.toNat : Nat) : Int) = i by omega]; exact .nil)
    show (dL b k w i [] false).getD i.toNat 0 = 0
    omega
  · have hn := stp_ok h k0 w0 x d x0 x1 d0 d5 hc
    have hp := hd.snd x.toNat (by omega) hx
    have hg : bEg b k w [] false x (nx b.m x d) (stepC b k x d w) := ⟨x, d, ⟨x0, x1⟩, ⟨d0, d5⟩, ⟨Int.ne_of_gt hc, rfl⟩, rfl, rfl, rfl⟩
    rw [show ((x.toNat : Nat) : Int) = x by omega] at hp
    have hq := Pth.step hp hg
    exact hd.lst (nx b.m x d).toNat _ (by omega) (by rw [show (((nx b.m x d).toNat : Nat) : Int) = nx b.m x d by omega]; exact hq)

theorem to_ok {b : Brd} (h : GB b) {k w y : Int} (k0 : 0 ≤ k ∧ k < b.r.knd.length) (w0 : 0 ≤ w ∧ w ≤ 2) (y0 : 0 ≤ y ∧ y < b.m.ter.length) : ToOk (bCo b k w) (nx b.m) b.m.ter.length y (el (dL b k w y [] true)) := by
  have hd := dL_ok h k0 w0 y0 [] true
  refine ⟨stp_ok h k0 w0, ?_, fun x d x0 x1 d0 d5 hc hx => ?_⟩
  · have := hd.lst y.toNat 0 (by omega) (by rw [show ((y.toNat : Nat) : Int) = y by omega]; exact .nil)
    show (dL b k w y [] true).getD y.toNat 0 = 0
    omega
  · have hn := stp_ok h k0 w0 x d x0 x1 d0 d5 hc
    have hp := hd.snd (nx b.m x d).toNat (by omega) hx
    have hg : bEg b k w [] true (nx b.m x d) x (stepC b k x d w) := ⟨x, d, ⟨x0, x1⟩, ⟨d0, d5⟩, ⟨Int.ne_of_gt hc, rfl⟩, rfl, rfl, rfl⟩
    rw [show (((nx b.m x d).toNat : Nat) : Int) = nx b.m x d by omega] at hp
    have hq := Pth.step hp hg
    exact hd.lst x.toNat _ (by omega) (by rw [show ((x.toNat : Nat) : Int) = x by omega]; exact hq)

theorem satI_add2 (a b : Nat) : (if satI a + satI b < (1000000001 : Int) then satI a + satI b else 1000000001) = satI (a + b) := by
  unfold satI; repeat' split
  all_goals omega

noncomputable def cntW (b : Brd) (k w i y : Int) : Int := satI (WkC (bCo b k w) (nx b.m) y (el (dL b k w i [] false) y).toNat i)

noncomputable def ctcR (b : Brd) (k w i y : Int) : Int × Bool :=
  if okTr b k w i y = true then if decide (el (dL b k w i [] false) y < 0) = true then (0, false) else if decide (cntW b k w i y > 1000000000) = true then (0, false) else (cntW b k w i y, true) else (0, false)

theorem F_l1Least (x y : Int) : Fun E0 15 [vI x, vI y] [] (.v (vI (if x < y then x else y))) [] [] := by
  refine Fun_of_xc k15 rfl rfl (fun k q h => by cases h) ?_
  ((conv=>whnf);repeat((first|refine Ct ‹_› ?_|refine Cf ‹_› ?_|refine Ct rfl ?_|refine Cf rfl ?_|refine Bi rfl ?_|refine Bz rfl ?_|refine Lr ?_);conv=>whnf))
  refine Cnd_i (fun g => ?_) (fun g => ?_)
  · have g' := of_decide_eq_true g
    ((conv=>whnf);repeat((first|refine Ct ‹_› ?_|refine Cf ‹_› ?_|refine Ct rfl ?_|refine Cf rfl ?_|refine Bi rfl ?_|refine Bz rfl ?_|refine Lr ?_);conv=>whnf))
    rw [if_pos g']
    exact ⟨rfl, rfl, rfl⟩
  · have g' := of_decide_eq_false g
    ((conv=>whnf);repeat((first|refine Ct ‹_› ?_|refine Cf ‹_› ?_|refine Ct rfl ?_|refine Cf rfl ?_|refine Bi rfl ?_|refine Bz rfl ?_|refine Lr ?_);conv=>whnf))
    rw [if_neg g']
    exact ⟨rfl, rfl, rfl⟩

/-- a loop's continuation may be taken as unknown, but for what it is asked for -/
theorem WLoop_abs {f : St → (Ex → St → Prop) → Prop} {s : St} {Q : Ex → St → Prop} (R : Ex → St → Prop) (h1 : ∀ e st, R e st → nfS st (Q e)) (h2 : ∀ Q' : Ex → St → Prop, (∀ e st, R e st → Q' e st) → WLoop f s Q') : WLoop f s Q := h2 Q fun e st h => by have h' := h1 e st h; rwa [nfS_eq] at h'

theorem F_CountCheapest (b : Brd) (ho : b.Ok) (k w i y : Int) :
    Fun E0 5 [.agg b.cs, vI k, vI w, vI i, vI y] [] (.tup [vI (ctcR b k w i y).1, vB (ctcR b k w i y).2]) [] [] := by
  refine Fun_of_xc k5 rfl rfl (fun k q h => by cases h) ?_
  ((conv=>whnf);repeat((first|refine Ct ‹_› ?_|refine Cf ‹_› ?_|refine Ct rfl ?_|refine Cf rfl ?_|refine Bi rfl ?_|refine Bz rfl ?_|refine Lr ?_);conv=>whnf))
  (refine CallQ_some (F_pAsked b ho k w i) ?_ ?_ ?_; rfl; rfl); ((conv=>whnf);repeat((first|refine Ct ‹_› ?_|refine Cf ‹_› ?_|refine Ct rfl ?_|refine Cf rfl ?_|refine Bi rfl ?_|refine Bz rfl ?_|refine Lr ?_);conv=>whnf))
  refine Cnd_i (fun g => ?_) (fun g => ?_)
  · have e0 : okIn b k w i = false := by simpa using g
    ((conv=>whnf);repeat((first|refine Ct ‹_› ?_|refine Cf ‹_› ?_|refine Ct rfl ?_|refine Cf rfl ?_|refine Bi rfl ?_|refine Bz rfl ?_|refine Lr ?_);conv=>whnf))
    rw [ctcR, okTr, e0]
    exact ⟨rfl, rfl, rfl⟩
  have e1 : okIn b k w i = true := by simpa using g
  ((conv=>whnf);repeat((first|refine Ct ‹_› ?_|refine Cf ‹_› ?_|refine Ct rfl ?_|refine Cf rfl ?_|refine Bi rfl ?_|refine Bz rfl ?_|refine Lr ?_);conv=>whnf))
  (refine CallQ_some (F_pAsked b ho k w y) ?_ ?_ ?_; rfl; rfl); ((conv=>whnf);repeat((first|refine Ct ‹_› ?_|refine Cf ‹_› ?_|refine Ct rfl ?_|refine Cf rfl ?_|refine Bi rfl ?_|refine Bz rfl ?_|refine Lr ?_);conv=>whnf))
  refine Cnd_i (fun g => ?_) (fun g => ?_)
  · have e0 : okIn b k w y = false := by simpa using g
    ((conv=>whnf);repeat((first|refine Ct ‹_› ?_|refine Cf ‹_› ?_|refine Ct rfl ?_|refine Cf rfl ?_|refine Bi rfl ?_|refine Bz rfl ?_|refine Lr ?_);conv=>whnf))
    rw [ctcR, okTr, e1, e0]
    exact ⟨rfl, rfl, rfl⟩
  have e2 : okIn b k w y = true := by simpa using g
  have e0 : okTr b k w i y = true := by rw [okTr, e1, e2]; rfl
  obtain ⟨hi, hx⟩ := TrOk ho e0
  have h := hi.gb
  have k0 := hi.k
  have w0 := hi.w
  have i0 := hi.i
  have hm := hi.gb.wh.mul
  have hn := hi.gb.n
  have hlen := dL_len hi.gb hi.k hi.w hi.i [] false
  have hle := dL_le h k0 w0 i0 [] false
  have hfr := fr_ok h k0 w0 i0
  rw [ctcR, e0, if_pos rfl]
  ((conv=>whnf);repeat((first|refine Ct ‹_› ?_|refine Cf ‹_› ?_|refine Ct rfl ?_|refine Cf rfl ?_|refine Bi rfl ?_|refine Bz rfl ?_|refine Lr ?_);conv=>whnf))
  (refine CallQ_some (F_pFrom0 b hi.gb k w i hi.k hi.w hi.i) ?_ ?_ ?_; rfl; rfl); ((conv=>whnf);repeat((first|refine Ct ‹_› ?_|refine Cf ‹_› ?_|refine Ct rfl ?_|refine Cf rfl ?_|refine Bi rfl ?_|refine Bz rfl ?_|refine Lr ?_);conv=>whnf))
  refine Bnd_i (⟨hx.1, by omega⟩) ?_; ((conv=>whnf);repeat((first|refine Ct ‹_› ?_|refine Cf ‹_› ?_|refine Ct rfl ?_|refine Cf rfl ?_|refine Bi rfl ?_|refine Bz rfl ?_|refine Lr ?_);conv=>whnf))
  refine Cnd_i (fun g => ?_) (fun g => ?_)
  · ((conv=>whnf);repeat((first|refine Ct ‹_› ?_|refine Cf ‹_› ?_|refine Ct rfl ?_|refine Cf rfl ?_|refine Bi rfl ?_|refine Bz rfl ?_|refine Lr ?_);conv=>whnf))
    rw [if_pos (show decide (el (dL b k w i [] false) y < 0) = true from g)]
    exact ⟨rfl, rfl, rfl⟩
  rw [if_neg (show ¬ (decide (el (dL b k w i [] false) y < 0) = true) by rw [show decide (el (dL b k w i [] false) y < 0) = false from g]; simp)]
  have g' : 0 ≤ el (dL b k w i [] false) y := by have := of_decide_eq_false g; unfold el; omega
  unfold cntW
  generalize hLL : dL b k w i [] false = F at *
  clear g hLL
  have hyl : el F y ≤ 2000 := hle y.toNat (by omega)
  ((conv=>whnf);repeat((first|refine Ct ‹_› ?_|refine Cf ‹_› ?_|refine Ct rfl ?_|refine Cf rfl ?_|refine Bi rfl ?_|refine Bz rfl ?_|refine Lr ?_);conv=>whnf))
  refine Bnd_i (by omega) ?_
  ((conv=>whnf);repeat((first|refine Ct ‹_› ?_|refine Cf ‹_› ?_|refine Ct rfl ?_|refine Cf rfl ?_|refine Bi rfl ?_|refine Bz rfl ?_|refine Lr ?_);conv=>whnf))
  refine Rw_i (rwIn F.length (List.replicate F.length 0)) (rwIn_zero _) ?_
  ((conv=>whnf);repeat((first|refine Ct ‹_› ?_|refine Cf ‹_› ?_|refine Ct rfl ?_|refine Cf rfl ?_|refine Bi rfl ?_|refine Bz rfl ?_|refine Lr ?_);conv=>whnf))
  refine Bnd_i (⟨i0.1, (show i < (F.length : Int) by omega)⟩) ?_; ((conv=>whnf);repeat((first|refine Ct ‹_› ?_|refine Cf ‹_› ?_|refine Ct rfl ?_|refine Cf rfl ?_|refine Bi rfl ?_|refine Bz rfl ?_|refine Lr ?_);conv=>whnf))
  refine Rw_i (rwIn F.length ((List.replicate F.length 0).set i.toNat 1)) (rwIn_set _ _ _ _ (by simp; omega)) ?_
  ((conv=>whnf);repeat((first|refine Ct ‹_› ?_|refine Cf ‹_› ?_|refine Ct rfl ?_|refine Cf rfl ?_|refine Bi rfl ?_|refine Bz rfl ?_|refine Lr ?_);conv=>whnf))
  refine WLoop_v2 ⟨[1, 2, 4, 5, 12, 13, 14], [5], []⟩ (fun (v : Int) (M : List Int) => hdS 123 [(1, .v (vI k)), (2, .v (vI w)), (4, .v (vI y)), (5, .v (.one (.box 5 0))), (12, .v (.one (.own (vkey 12) F.length))), (13, .v (.one (.own (vkey 13) F.length))), (14, .v (vI v))] [(5, b.cs)] [(vkey 12, rwI F), (vkey 13, rwIn F.length M)])
    (fun q v M => 0 ≤ v ∧ v + q = el F y ∧ M.length = F.length ∧ ∀ z : Int, 0 ≤ z → z < b.m.ter.length → el M z = satI (Acc (bCo b k w) (nx b.m) b.m.ter.length i (el F) v 0 0 z)) (el F y).toNat 0 _ rfl ⟨by omega, by omega, by simp, fun z z0 z1 => by
      rw [Acc_init, el_set i0.1 (by simp; omega) z0]
      split
      · rfl
      · unfold el
        rw [List.getD_eq_getElem?_getD, List.getElem?_replicate]
        split <;> rfl⟩ ?_
  rintro q v M ⟨v0, hq, hM, hA⟩
  ((conv=>whnf);repeat((first|refine Ct ‹_› ?_|refine Cf ‹_› ?_|refine Ct rfl ?_|refine Cf rfl ?_|refine Bi rfl ?_|refine Bz rfl ?_|refine Lr ?_);conv=>whnf))
  refine Bnd_i (⟨hx.1, by omega⟩) ?_; ((conv=>whnf);repeat((first|refine Ct ‹_› ?_|refine Cf ‹_› ?_|refine Ct rfl ?_|refine Cf rfl ?_|refine Bi rfl ?_|refine Bz rfl ?_|refine Lr ?_);conv=>whnf))
  refine Cnd_i (fun g => ?_) (fun g => ?_)
  rotate_left
  · have hv := of_decide_eq_false g
    ((conv=>whnf);repeat((first|refine Ct ‹_› ?_|refine Cf ‹_› ?_|refine Ct rfl ?_|refine Cf rfl ?_|refine Bi rfl ?_|refine Bz rfl ?_|refine Lr ?_);conv=>whnf))
    refine Bnd_i (⟨hx.1, by omega⟩) ?_; ((conv=>whnf);repeat((first|refine Ct ‹_› ?_|refine Cf ‹_› ?_|refine Ct rfl ?_|refine Cf rfl ?_|refine Bi rfl ?_|refine Bz rfl ?_|refine Lr ?_);conv=>whnf))
    have hve : v = el F y := by
      have : el F y = F.getD y.toNat 0 := rfl
      omega
    have hy : el M y = satI (WkC (bCo b k w) (nx b.m) y (el F y).toNat i) := by rw [hA y hx.1 hx.2, Acc_done hfr g' (by omega)]
    rw [← hy]
    refine Cnd_i (fun g => ?_) (fun g => ?_)
    · ((conv=>whnf);repeat((first|refine Ct ‹_› ?_|refine Cf ‹_› ?_|refine Ct rfl ?_|refine Cf rfl ?_|refine Bi rfl ?_|refine Bz rfl ?_|refine Lr ?_);conv=>whnf))
      rw [if_pos (show decide (el M y > 1000000000) = true from g)]
      exact ⟨rfl, rfl, rfl⟩
    · ((conv=>whnf);repeat((first|refine Ct ‹_› ?_|refine Cf ‹_› ?_|refine Ct rfl ?_|refine Cf rfl ?_|refine Bi rfl ?_|refine Bz rfl ?_|refine Lr ?_);conv=>whnf))
      refine Bnd_i (⟨hx.1, by omega⟩) ?_; ((conv=>whnf);repeat((first|refine Ct ‹_› ?_|refine Cf ‹_› ?_|refine Ct rfl ?_|refine Cf rfl ?_|refine Bi rfl ?_|refine Bz rfl ?_|refine Lr ?_);conv=>whnf))
      rw [if_neg (show ¬ (decide (el M y > 1000000000) = true) by rw [show decide (el M y > 1000000000) = false from g]; simp)]
      exact ⟨rfl, rfl, rfl⟩
  have hv : v < el F y := of_decide_eq_true g
  ((conv=>whnf);repeat((first|refine Ct ‹_› ?_|refine Cf ‹_› ?_|refine Ct rfl ?_|refine Cf rfl ?_|refine Bi rfl ?_|refine Bz rfl ?_|refine Lr ?_);conv=>whnf))
  refine WLoop_v2 ⟨[1, 2, 4, 5, 12, 13, 14, 59, 60], [5], [(58, 12)]⟩ (fun (x : Int) (M : List Int) => hdS 123 [(1, .v (vI k)), (2, .v (vI w)), (4, .v (vI y)), (5, .v (.one (.box 5 0))), (12, .v (.one (.own (vkey 12) F.length))), (13, .v (.one (.own (vkey 13) F.length))), (14, .v (vI v)), (59, .v (vI F.length)), (60, .v (vI x)), (58, .v (.one (.own (vkey 12) F.length)))] [(5, b.cs)] [(vkey 12, rwI F), (vkey 13, rwIn F.length M)])
    (fun q x M => 0 ≤ x ∧ x + q = F.length ∧ M.length = F.length ∧ ∀ z : Int, 0 ≤ z → z < b.m.ter.length → el M z = satI (Acc (bCo b k w) (nx b.m) b.m.ter.length i (el F) v x 0 z)) F.length 0 M rfl ⟨by omega, by omega, hM, hA⟩ ?_
  clear hM hA M
  rintro q2 x M ⟨x0, hq2, hM, hA⟩
  ((conv=>whnf);repeat((first|refine Ct ‹_› ?_|refine Cf ‹_› ?_|refine Ct rfl ?_|refine Cf rfl ?_|refine Bi rfl ?_|refine Bz rfl ?_|refine Lr ?_);conv=>whnf))
  refine Cnd_i (fun g => ?_) (fun g => ?_)
  rotate_left
  · have hx := of_decide_eq_false g
    have hxe : x = b.m.ter.length := by omega
    ((conv=>whnf);repeat((first|refine Ct ‹_› ?_|refine Cf ‹_› ?_|refine Ct rfl ?_|refine Cf rfl ?_|refine Bi rfl ?_|refine Bz rfl ?_|refine Lr ?_);conv=>whnf))
    refine ⟨q - 1, v + 1, M, ?_, by omega, by omega, by omega, hM, fun z z0 z1 => by rw [hA z z0 z1, hxe, Acc_nv]⟩
    rw [wrapI (by omega)]; rfl
  have hxl := of_decide_eq_true g
  have hxN : 0 ≤ x ∧ x < b.m.ter.length := ⟨x0, by omega⟩
  have hFx : el F x = F.getD x.toNat 0 := rfl
  have hsk : (el F x ≠ v ∨ WkC (bCo b k w) (nx b.m) x (el F x).toNat i = 0) → ∀ z : Int, 0 ≤ z → z < b.m.ter.length → el M z = satI (Acc (bCo b k w) (nx b.m) b.m.ter.length i (el F) v (x + 1) 0 z) := fun hh z z0 z1 => by rw [hA z z0 z1, Acc_skip hh]
  ((conv=>whnf);repeat((first|refine Ct ‹_› ?_|refine Cf ‹_› ?_|refine Ct rfl ?_|refine Cf rfl ?_|refine Bi rfl ?_|refine Bz rfl ?_|refine Lr ?_);conv=>whnf))
  refine Bnd_i (⟨x0, by omega⟩) ?_; ((conv=>whnf);repeat((first|refine Ct ‹_› ?_|refine Cf ‹_› ?_|refine Ct rfl ?_|refine Cf rfl ?_|refine Bi rfl ?_|refine Bz rfl ?_|refine Lr ?_);conv=>whnf))
  refine Cnd_i (fun g => ?_) (fun g => ?_)
  · have hne : ¬ F.getD x.toNat 0 = v := by simpa using g
    ((conv=>whnf);repeat((first|refine Ct ‹_› ?_|refine Cf ‹_› ?_|refine Ct rfl ?_|refine Cf rfl ?_|refine Bi rfl ?_|refine Bz rfl ?_|refine Lr ?_);conv=>whnf))
    refine ⟨q2 - 1, x + 1, M, ?_, by omega, by omega, by omega, hM, hsk (.inl hne)⟩
    rw [wrapI (by omega)]; rfl
  have hev : F.getD x.toNat 0 = v := by simpa using g
  have hev : el F x = v := hev
  have hxA : ∀ d, Acc (bCo b k w) (nx b.m) b.m.ter.length i (el F) v x d x = WkC (bCo b k w) (nx b.m) x v.toNat i := fun d => by rw [Acc_done hfr (by omega) (by omega), hev]
  ((conv=>whnf);repeat((first|refine Ct ‹_› ?_|refine Cf ‹_› ?_|refine Ct rfl ?_|refine Cf rfl ?_|refine Bi rfl ?_|refine Bz rfl ?_|refine Lr ?_);conv=>whnf))
  refine Bnd_i (⟨x0, by omega⟩) ?_; ((conv=>whnf);repeat((first|refine Ct ‹_› ?_|refine Cf ‹_› ?_|refine Ct rfl ?_|refine Cf rfl ?_|refine Bi rfl ?_|refine Bz rfl ?_|refine Lr ?_);conv=>whnf))
  refine Cnd_i (fun g => ?_) (fun g => ?_)
  · have h0 : M.getD x.toNat 0 = 0 := by simpa using g
    ((conv=>whnf);repeat((first|refine Ct ‹_› ?_|refine Cf ‹_› ?_|refine Ct rfl ?_|refine Cf rfl ?_|refine Bi rfl ?_|refine Bz rfl ?_|refine Lr ?_);conv=>whnf))
    refine ⟨q2 - 1, x + 1, M, ?_, by omega, by omega, by omega, hM, hsk (.inr ?_)⟩
    · rw [wrapI (by omega)]; rfl
    · have e : el M x = 0 := h0
      rw [hA x hxN.1 hxN.2] at e
      rw [hev, ← hxA 0]
      exact satI_zero e
  clear g hsk
  ((conv=>whnf);repeat((first|refine Ct ‹_› ?_|refine Cf ‹_› ?_|refine Ct rfl ?_|refine Cf rfl ?_|refine Bi rfl ?_|refine Bz rfl ?_|refine Lr ?_);conv=>whnf))
  refine WLoop_abs (fun e st => e = Ex.exit 4 ∧ ∃ (d : Int) (M : List Int), st = hdS 123 [(1, .v (vI k)), (2, .v (vI w)), (4, .v (vI y)), (5, .v (.one (.box 5 0))), (12, .v (.one (.own (vkey 12) F.length))), (13, .v (.one (.own (vkey 13) F.length))), (14, .v (vI v)), (15, .v (vI x)), (16, .v (vI (F.getD x.toNat 0))), (17, .v (vI d)), (59, .v (vI F.length)), (60, .v (vI x)), (58, .v (.one (.own (vkey 12) F.length))), (75, .v (vI d)), (76, .v (vB (decide (d < 6))))] [(5, b.cs)] [(vkey 12, rwI F), (vkey 13, rwIn F.length M)] ∧ M.length = F.length ∧ ∀ z : Int, 0 ≤ z → z < b.m.ter.length → el M z = satI (Acc (bCo b k w) (nx b.m) b.m.ter.length i (el F) v (x + 1) 0 z)) ?_ ?_
  · clear hM hA M
    intro e st hR
    obtain ⟨h1, d, M, h2, hM, hA⟩ := hR
    subst h1
    subst h2
    ((conv=>whnf);repeat((first|refine Ct ‹_› ?_|refine Cf ‹_› ?_|refine Ct rfl ?_|refine Cf rfl ?_|refine Bi rfl ?_|refine Bz rfl ?_|refine Lr ?_);conv=>whnf))
    refine ⟨q2 - 1, x + 1, M, ?_, by omega, by omega, by omega, hM, hA⟩
    rw [wrapI (by omega)]; rfl
  intro Q' hQ'
  refine WLoop_v2 ⟨[1, 2, 4, 5, 12, 13, 14, 15, 16, 17, 59, 60], [5], [(58, 12)]⟩ (fun (d : Int) (M : List Int) => hdS 123 [(1, .v (vI k)), (2, .v (vI w)), (4, .v (vI y)), (5, .v (.one (.box 5 0))), (12, .v (.one (.own (vkey 12) F.length))), (13, .v (.one (.own (vkey 13) F.length))), (14, .v (vI v)), (15, .v (vI x)), (16, .v (vI (F.getD x.toNat 0))), (17, .v (vI d)), (59, .v (vI F.length)), (60, .v (vI x)), (58, .v (.one (.own (vkey 12) F.length)))] [(5, b.cs)] [(vkey 12, rwI F), (vkey 13, rwIn F.length M)])
    (fun q d M => 0 ≤ d ∧ d + q = 6 ∧ M.length = F.length ∧ ∀ z : Int, 0 ≤ z → z < b.m.ter.length → el M z = satI (Acc (bCo b k w) (nx b.m) b.m.ter.length i (el F) v x d z)) 6 0 M rfl ⟨by omega, by omega, hM, hA⟩ ?_
  clear hM hA M
  rintro q3 d M ⟨d0, hq3, hM, hA⟩
  ((conv=>whnf);repeat((first|refine Ct ‹_› ?_|refine Cf ‹_› ?_|refine Ct rfl ?_|refine Cf rfl ?_|refine Bi rfl ?_|refine Bz rfl ?_|refine Lr ?_);conv=>whnf))
  refine Cnd_i (fun g => ?_) (fun g => ?_)
  rotate_left
  · have hd := of_decide_eq_false g
    have hd6 : d = 6 := by omega
    ((conv=>whnf);repeat((first|refine Ct ‹_› ?_|refine Cf ‹_› ?_|refine Ct rfl ?_|refine Cf rfl ?_|refine Bi rfl ?_|refine Bz rfl ?_|refine Lr ?_);conv=>whnf))
    refine hQ' _ _ ⟨rfl, d, M, rfl, hM, fun z z0 z1 => by rw [hA z z0 z1, hd6, Acc_nx]⟩
  have hd : d < 6 := of_decide_eq_true g
  have hsb := stepC_b h (i := x) (d := d) k0 w0
  have hno : ¬ (0 < stepC b k x d w ∧ el F (nx b.m x d) = v + stepC b k x d w) → ∀ z : Int, 0 ≤ z → z < b.m.ter.length → el M z = satI (Acc (bCo b k w) (nx b.m) b.m.ter.length i (el F) v x (d + 1) z) := fun hh z z0 z1 => by
    classical
    rw [hA z z0 z1, Acc_d hxN ⟨d0, by omega⟩ hev, if_neg, Nat.add_zero]
    rintro ⟨t1, t2, t3, t4⟩
    subst t2
    exact hh ⟨t1, by rw [← t4, hev]⟩
  ((conv=>whnf);repeat((first|refine Ct ‹_› ?_|refine Cf ‹_› ?_|refine Ct rfl ?_|refine Cf rfl ?_|refine Bi rfl ?_|refine Bz rfl ?_|refine Lr ?_);conv=>whnf))
  (refine CallQ_some (F_cStep b h k x d w k0.1 k0.2 hxN.1 hxN.2 d0 (by omega) w0.1 w0.2) ?_ ?_ ?_; rfl; rfl); ((conv=>whnf);repeat((first|refine Ct ‹_› ?_|refine Cf ‹_› ?_|refine Ct rfl ?_|refine Cf rfl ?_|refine Bi rfl ?_|refine Bz rfl ?_|refine Lr ?_);conv=>whnf))
  refine Cnd_i (fun g => ?_) (fun g => ?_)
  · have hz : stepC b k x d w = 0 := by simpa using g
    ((conv=>whnf);repeat((first|refine Ct ‹_› ?_|refine Cf ‹_› ?_|refine Ct rfl ?_|refine Cf rfl ?_|refine Bi rfl ?_|refine Bz rfl ?_|refine Lr ?_);conv=>whnf))
    refine ⟨q3 - 1, d + 1, M, ?_, by omega, by omega, by omega, hM, hno (by omega)⟩
    rw [wrapI (by omega)]; rfl
  have hz : ¬ stepC b k x d w = 0 := by simpa using g
  have hnx := hsb.2.2 hz
  ((conv=>whnf);repeat((first|refine Ct ‹_› ?_|refine Cf ‹_› ?_|refine Ct rfl ?_|refine Cf rfl ?_|refine Bi rfl ?_|refine Bz rfl ?_|refine Lr ?_);conv=>whnf))
  (refine CallQ_some (F_mNext b.m h.wh x d hxN.1 (by omega) d0 (by omega)) ?_ ?_ ?_; rfl; rfl); ((conv=>whnf);repeat((first|refine Ct ‹_› ?_|refine Cf ‹_› ?_|refine Ct rfl ?_|refine Cf rfl ?_|refine Bi rfl ?_|refine Bz rfl ?_|refine Lr ?_);conv=>whnf))
  refine Bnd_i (⟨hnx.1, by omega⟩) ?_; ((conv=>whnf);repeat((first|refine Ct ‹_› ?_|refine Cf ‹_› ?_|refine Ct rfl ?_|refine Cf rfl ?_|refine Bi rfl ?_|refine Bz rfl ?_|refine Lr ?_);conv=>whnf))
  have hwr : IntKind.i64.wrap (F.getD x.toNat 0 + stepC b k x d w) = F.getD x.toNat 0 + stepC b k x d w := wrapI (by omega)
  refine Cnd_i (fun g => ?_) (fun g => ?_)
  rotate_left
  · rw [hwr] at g
    have ht : ¬ F.getD (nx b.m x d).toNat 0 = F.getD x.toNat 0 + stepC b k x d w := by simpa using g
    ((conv=>whnf);repeat((first|refine Ct ‹_› ?_|refine Cf ‹_› ?_|refine Ct rfl ?_|refine Cf rfl ?_|refine Bi rfl ?_|refine Bz rfl ?_|refine Lr ?_);conv=>whnf))
    refine ⟨q3 - 1, d + 1, M, ?_, by omega, by omega, by omega, hM, hno (fun hh => ht ?_)⟩
    · rw [wrapI (by omega)]; rfl
    · have : el F (nx b.m x d) = v + stepC b k x d w := hh.2
      rw [← hFx, hev]; exact this
  rw [hwr] at g
  have ht : F.getD (nx b.m x d).toNat 0 = F.getD x.toNat 0 + stepC b k x d w := by simpa using g
  have ht : el F (nx b.m x d) = v + stepC b k x d w := by rw [← hev]; exact ht
  have hne : nx b.m x d ≠ x := fun e => by rw [e] at ht; omega
  have b1 := satI_b (Acc (bCo b k w) (nx b.m) b.m.ter.length i (el F) v x d (nx b.m x d))
  have b2 := satI_b (Acc (bCo b k w) (nx b.m) b.m.ter.length i (el F) v x d x)
  rw [← hA _ hnx.1 hnx.2] at b1
  rw [← hA _ hxN.1 hxN.2] at b2
  ((conv=>whnf);repeat((first|refine Ct ‹_› ?_|refine Cf ‹_› ?_|refine Ct rfl ?_|refine Cf rfl ?_|refine Bi rfl ?_|refine Bz rfl ?_|refine Lr ?_);conv=>whnf))
  refine Bnd_i (⟨hnx.1, by omega⟩) ?_; ((conv=>whnf);repeat((first|refine Ct ‹_› ?_|refine Cf ‹_› ?_|refine Ct rfl ?_|refine Cf rfl ?_|refine Bi rfl ?_|refine Bz rfl ?_|refine Lr ?_);conv=>whnf))
  refine Bnd_i (⟨hxN.1, by omega⟩) ?_; ((conv=>whnf);repeat((first|refine Ct ‹_› ?_|refine Cf ‹_› ?_|refine Ct rfl ?_|refine Cf rfl ?_|refine Bi rfl ?_|refine Bz rfl ?_|refine Lr ?_);conv=>whnf))
  (refine CallQ_some (F_l1Least _ _) ?_ ?_ ?_; rfl; rfl); ((conv=>whnf);repeat((first|refine Ct ‹_› ?_|refine Cf ‹_› ?_|refine Ct rfl ?_|refine Cf rfl ?_|refine Bi rfl ?_|refine Bz rfl ?_|refine Lr ?_);conv=>whnf))
  have hs : (if IntKind.i64.wrap (M.getD (nx b.m x d).toNat 0 + M.getD x.toNat 0) < 1000000001 then IntKind.i64.wrap (M.getD (nx b.m x d).toNat 0 + M.getD x.toNat 0) else 1000000001) = satI (Acc (bCo b k w) (nx b.m) b.m.ter.length i (el F) v x d (nx b.m x d) + WkC (bCo b k w) (nx b.m) x v.toNat i) := by
    have e1 : M.getD (nx b.m x d).toNat 0 = el M (nx b.m x d) := rfl
    have e2 : M.getD x.toNat 0 = el M x := rfl
    rw [e1, e2, wrapI (by omega), hA _ hnx.1 hnx.2, hA _ hxN.1 hxN.2, satI_add2, hxA d]
  refine Bnd_i (⟨hnx.1, by omega⟩) ?_; ((conv=>whnf);repeat((first|refine Ct ‹_› ?_|refine Cf ‹_› ?_|refine Ct rfl ?_|refine Cf rfl ?_|refine Bi rfl ?_|refine Bz rfl ?_|refine Lr ?_);conv=>whnf))
  refine Rw_i (rwIn F.length (M.set (nx b.m x d).toNat (satI (Acc (bCo b k w) (nx b.m) b.m.ter.length i (el F) v x d (nx b.m x d) + WkC (bCo b k w) (nx b.m) x v.toNat i)))) (by rw [← hs]; exact rwIn_set _ _ _ _ (by omega)) ?_
  ((conv=>whnf);repeat((first|refine Ct ‹_› ?_|refine Cf ‹_› ?_|refine Ct rfl ?_|refine Cf rfl ?_|refine Bi rfl ?_|refine Bz rfl ?_|refine Lr ?_);conv=>whnf))
  refine ⟨q3 - 1, d + 1, M.set (nx b.m x d).toNat (satI (Acc (bCo b k w) (nx b.m) b.m.ter.length i (el F) v x d (nx b.m x d) + WkC (bCo b k w) (nx b.m) x v.toNat i)), ?_, by omega, by omega, by omega, by rw [List.length_set]; exact hM, fun z z0 z1 => ?_⟩
  · rw [wrapI (by omega)]; rfl
  · classical
    rw [el_set hnx.1 (by omega) z0, Acc_d hxN ⟨d0, by omega⟩ hev]
    by_cases c : z = nx b.m x d
    · rw [if_pos c, if_pos (show Tig (bCo b k w) (nx b.m) (el F) x d z from ⟨by show 0 < stepC b k x d w; omega, c.symm, by omega, by rw [c, ht, hev]⟩), c]
    · rw [if_neg c, if_neg (show ¬ Tig (bCo b k w) (nx b.m) (el F) x d z from fun hh => c hh.2.1.symm), Nat.add_zero]
      exact hA z z0 z1

theorem selN_mm (p : Int → Bool) (n : Nat) : ∀ z : Int, z ∈ selN p n ↔ 0 ≤ z ∧ z < n ∧ p z = true := by
  induction n with
  | zero => intro z; rw [selN]; simp; omega
  | succ n ih =>
    intro z
    rw [selN]
    by_cases e : p (n : Int) = true
    · rw [if_pos e, List.mem_append, ih z, List.mem_singleton]
      constructor
      · rintro (h | h)
        · exact ⟨h.1, by omega, h.2.2⟩
        · subst h; exact ⟨by omega, by omega, e⟩
      · rintro ⟨h1, h2, h3⟩
        by_cases c : z = n
        · exact .inr c
        · exact .inl ⟨h1, by omega, h3⟩
    · rw [if_neg e, ih z]
      constructor
      · rintro ⟨h1, h2, h3⟩; exact ⟨h1, by omega, h3⟩
      · rintro ⟨h1, h2, h3⟩
        have c : z ≠ n := fun c => e (by rw [← c]; exact h3)
        exact ⟨h1, by omega, h3⟩

theorem selN_nd (p : Int → Bool) (n : Nat) : (selN p n).Nodup := by
  induction n with
  | zero => rw [selN]; exact List.nodup_nil
  | succ n ih =>
    rw [selN]
    by_cases e : p (n : Int) = true
    · rw [if_pos e]
      refine List.nodup_append.2 ⟨ih, List.nodup_cons.2 ⟨List.not_mem_nil, List.nodup_nil⟩, fun a ha b hb => ?_⟩
      have := (selN_mm p n a).1 ha
      have hb := List.mem_singleton.1 hb
      omega
    · rw [if_neg e]; exact ih

/-- places in the order of their sums -/
structure OrdOk (lf : Int → Int) (N : Nat) (O : List Int) : Prop where
  mem : ∀ z, 0 ≤ z → z < (N : Int) → 0 ≤ lf z → ∃ q, 0 ≤ q ∧ q < (O.length : Int) ∧ el O q = z
  pos : ∀ q, 0 ≤ q → q < (O.length : Int) → 0 ≤ el O q ∧ el O q < (N : Int) ∧ 0 ≤ lf (el O q)
  inj : ∀ q p, 0 ≤ q → q < p → p < (O.length : Int) → el O q ≠ el O p
  srd : ∀ q p, 0 ≤ q → q ≤ p → p < (O.length : Int) → lf (el O q) ≤ lf (el O p)

theorem OrdOk.of {L D O : List Int} (hD : D = selN (fun x => decide (0 ≤ el L x)) L.length) (hp : O.Perm D) (hs : Srd L O 0 O.length) : OrdOk (el L) L.length O := by
  have hmem : ∀ z, z ∈ O ↔ 0 ≤ z ∧ z < (L.length : Int) ∧ 0 ≤ el L z := fun z => by
    rw [hp.mem_iff, hD, selN_mm]; simp
  have hnd : O.Nodup := hp.nodup_iff.2 (by rw [hD]; exact selN_nd _ _)
  have hel : ∀ q : Int, (hq0 : 0 ≤ q) → (hq : q < (O.length : Int)) → el O q = O[q.toNat]'(by omega) := fun q q0 q1 => by
    unfold el
    rw [List.getD_eq_getElem?_getD, List.getElem?_eq_getElem (by omega)]; rfl
  refine ⟨fun z z0 z1 hz => ?_, fun q q0 q1 => ?_, fun q p q0 qp p1 => ?_, fun q p q0 qp p1 => hs q p q0 qp p1⟩
  · obtain ⟨n, hn, he⟩ := List.mem_iff_getElem.1 ((hmem z).2 ⟨z0, z1, hz⟩)
    refine ⟨n, by omega, by omega, ?_⟩
    rw [hel n (by omega) (by omega)]
    exact he
  · rw [← hmem, hel q q0 q1]
    exact List.getElem_mem _
  · rw [hel q q0 (by omega), hel p (by omega) p1]
    exact List.pairwise_iff_getElem.1 hnd q.toNat p.toNat (by omega) (by omega) (by omega)

open Classical in
/-- the counts when p places are done -/
noncomputable def Cnt (cost next : Int → Int → Int) (y : Int) (lf : Int → Int) (O : List Int) (p z : Int) : Int :=
  if ∃ q, 0 ≤ q ∧ q < p ∧ el O q = z then satI (WkC cost next y (lf z).toNat z) else if z = y then 1 else 0

/-- the counts when p places and d directions of the next one are done -/
noncomputable def CntX (cost next : Int → Int → Int) (y : Int) (lf : Int → Int) (O : List Int) (p d z : Int) : Int :=
  if z = el O p then satI (PS cost next y lf z d.toNat) else Cnt cost next y lf O p z

section

variable {cost next : Int → Int → Int} {y : Int} {lf : Int → Int} {O : List Int} {N : Nat}

theorem Cnt_0 (z : Int) : Cnt cost next y lf O 0 z = if z = y then 1 else 0 := by
  unfold Cnt
  rw [if_neg (by rintro ⟨q, h1, h2, _⟩; omega)]

theorem CntX_0 (h : OrdOk lf N O) {p : Int} (p1 : p < (O.length : Int)) (z : Int) : CntX cost next y lf O p 0 z = Cnt cost next y lf O p z := by
  unfold CntX
  by_cases e : z = el O p
  · rw [if_pos e]
    unfold Cnt
    rw [if_neg (by rintro ⟨q, h1, h2, h3⟩; exact h.inj q p h1 h2 p1 (h3.trans e))]
    unfold PS
    show satI (_ + 0) = _
    unfold satI
    by_cases c : z = y
    · rw [if_pos c, if_pos c]; rfl
    · rw [if_neg c, if_neg c]; rfl
  · rw [if_neg e]

theorem CntX_6 (ht : ToOk cost next N y lf) (h : OrdOk lf N O) {p : Int} (p0 : 0 ≤ p) (p1 : p < (O.length : Int)) (z : Int) : CntX cost next y lf O p 6 z = Cnt cost next y lf O (p + 1) z := by
  have hp := h.pos p p0 p1
  unfold CntX
  by_cases e : z = el O p
  · rw [if_pos e]
    unfold Cnt
    rw [if_pos ⟨p, p0, by omega, e.symm⟩, e]
    exact congrArg satI (PS_all ht ⟨hp.1, hp.2.1⟩ hp.2.2)
  · rw [if_neg e]
    unfold Cnt
    by_cases c : ∃ q, 0 ≤ q ∧ q < p ∧ el O q = z
    · rw [if_pos c]
      obtain ⟨q, h1, h2, h3⟩ := c
      rw [if_pos ⟨q, h1, by omega, h3⟩]
    · rw [if_neg c, if_neg (c := ∃ q, 0 ≤ q ∧ q < p + 1 ∧ el O q = z)]
      rintro ⟨q, h1, h2, h3⟩
      by_cases k : q = p
      · subst k; exact e h3.symm
      · exact c ⟨q, h1, by omega, h3⟩

theorem CntX_n {p d : Int} (d0 : 0 ≤ d) (hn : ¬ TigI cost next lf (el O p) d) (z : Int) : CntX cost next y lf O p (d + 1) z = CntX cost next y lf O p d z := by
  classical
  unfold CntX
  by_cases e : z = el O p
  · rw [if_pos e, if_pos e]
    unfold PS
    rw [show (d + 1).toNat = d.toNat + 1 by omega, sumN, show ((d.toNat : Nat) : Int) = d by omega, e, if_neg hn, Nat.add_zero]
  · rw [if_neg e, if_neg e]

theorem CntX_d (ht : ToOk cost next N y lf) (h : OrdOk lf N O) {p d : Int} (p0 : 0 ≤ p) (p1 : p < (O.length : Int)) (d0 : 0 ≤ d) (d5 : d ≤ 5) (hn : TigI cost next lf (el O p) d) (z : Int) :
    CntX cost next y lf O p (d + 1) z = if z = el O p then (if (1000000001 : Int) < CntX cost next y lf O p d (el O p) + CntX cost next y lf O p d (next (el O p) d) then 1000000001 else CntX cost next y lf O p d (el O p) + CntX cost next y lf O p d (next (el O p) d)) else CntX cost next y lf O p d z := by
  classical
  have hp := h.pos p p0 p1
  by_cases e : z = el O p
  · rw [if_pos e]
    have hn' := hn
    obtain ⟨t1, t2, t3⟩ := hn'
    have hnx := ht.st (el O p) d hp.1 hp.2.1 d0 d5 t1
    have hne : next (el O p) d ≠ el O p := fun c => by rw [c] at t3; omega
    obtain ⟨q, q0, q1, hq⟩ := h.mem _ hnx.1 hnx.2 t2
    have hqp : q < p := by
      by_cases c : q < p
      · exact c
      · have := h.srd p q p0 (by omega) q1
        rw [hq] at this; omega
    have a1 : CntX cost next y lf O p d (el O p) = satI (PS cost next y lf (el O p) d.toNat) := by unfold CntX; rw [if_pos rfl]
    have a2 : CntX cost next y lf O p d (next (el O p) d) = satI (WkC cost next y (lf (next (el O p) d)).toNat (next (el O p) d)) := by
      unfold CntX; rw [if_neg hne]; unfold Cnt; rw [if_pos ⟨q, q0, hqp, hq⟩]
    rw [a1, a2, satI_add]
    unfold CntX
    rw [if_pos e, e]
    congr 1
    unfold PS
    rw [show (d + 1).toNat = d.toNat + 1 by omega, sumN, show ((d.toNat : Nat) : Int) = d by omega, if_pos hn, Nat.add_assoc]
  · rw [if_neg e]
    unfold CntX
    rw [if_neg e, if_neg e]

theorem Cnt_n (h : OrdOk lf N O) {z : Int} (z0 : 0 ≤ z) (z1 : z < (N : Int)) (hz : 0 ≤ lf z) : Cnt cost next y lf O O.length z = satI (WkC cost next y (lf z).toNat z) := by
  unfold Cnt
  rw [if_pos (h.mem z z0 z1 hz)]

theorem Cnt_b (p z : Int) : 0 ≤ Cnt cost next y lf O p z ∧ Cnt cost next y lf O p z ≤ 1000000001 := by
  unfold Cnt
  have := satI_b (WkC cost next y (lf z).toNat z)
  repeat' split
  all_goals omega

theorem CntX_b (p d z : Int) : 0 ≤ CntX cost next y lf O p d z ∧ CntX cost next y lf O p d z ≤ 1000000001 := by
  unfold CntX
  have := satI_b (PS cost next y lf z d.toNat)
  have := Cnt_b (cost := cost) (next := next) (y := y) (lf := lf) (O := O) p z
  split <;> omega

end

theorem F_CountCheapestI (b : Brd) (ho : b.Ok) (k w i y : Int) :
    Fun E0 7 [.agg b.cs, vI k, vI w, vI i, vI y] [] (.tup [vI (ctcR b k w i y).1, vB (ctcR b k w i y).2]) [] [] := by
  refine Fun_of_xc k7 rfl rfl (fun k q h => by cases h) ?_
  ((conv=>whnf);repeat((first|refine Ct ‹_› ?_|refine Cf ‹_› ?_|refine Ct rfl ?_|refine Cf rfl ?_|refine Bi rfl ?_|refine Bz rfl ?_|refine Lr ?_);conv=>whnf))
  (refine CallQ_some (F_isTrip b ho k w i y) ?_ ?_ ?_; rfl; rfl); ((conv=>whnf);repeat((first|refine Ct ‹_› ?_|refine Cf ‹_› ?_|refine Ct rfl ?_|refine Cf rfl ?_|refine Bi rfl ?_|refine Bz rfl ?_|refine Lr ?_);conv=>whnf))
  refine Cnd_i (fun g => ?_) (fun g => ?_)
  · have e0 : okTr b k w i y = false := by simpa using g
    ((conv=>whnf);repeat((first|refine Ct ‹_› ?_|refine Cf ‹_› ?_|refine Ct rfl ?_|refine Cf rfl ?_|refine Bi rfl ?_|refine Bz rfl ?_|refine Lr ?_);conv=>whnf))
    rw [ctcR, e0]
    exact ⟨rfl, rfl, rfl⟩
  have e0 : okTr b k w i y = true := by simpa using g
  obtain ⟨hi, y0⟩ := TrOk ho e0
  have h := hi.gb
  have k0 := hi.k
  have w0 := hi.w
  have i0 := hi.i
  have hm := h.wh.mul
  have hn := h.n
  have hlen := dL_len h k0 w0 y0 [] true
  have hsm := dL_sm h k0 w0 y0 [] true
  have hto := to_ok h k0 w0 y0
  have hbk := (dL_ok h k0 w0 i0 [] false).back (dL_ok h k0 w0 y0 [] true) i0 y0
  rw [ctcR, e0, if_pos rfl]
  ((conv=>whnf);repeat((first|refine Ct ‹_› ?_|refine Cf ‹_› ?_|refine Ct rfl ?_|refine Cf rfl ?_|refine Bi rfl ?_|refine Bz rfl ?_|refine Lr ?_);conv=>whnf))
  (refine CallQ_some (F_relaxed0 b h k w y true k0 w0 y0) ?_ ?_ ?_; rfl; rfl); ((conv=>whnf);repeat((first|refine Ct ‹_› ?_|refine Cf ‹_› ?_|refine Ct rfl ?_|refine Cf rfl ?_|refine Bi rfl ?_|refine Bz rfl ?_|refine Lr ?_);conv=>whnf))
  refine Bnd_i (⟨i0.1, by omega⟩) ?_; ((conv=>whnf);repeat((first|refine Ct ‹_› ?_|refine Cf ‹_› ?_|refine Ct rfl ?_|refine Cf rfl ?_|refine Bi rfl ?_|refine Bz rfl ?_|refine Lr ?_);conv=>whnf))
  refine Cnd_i (fun g => ?_) (fun g => ?_)
  · ((conv=>whnf);repeat((first|refine Ct ‹_› ?_|refine Cf ‹_› ?_|refine Ct rfl ?_|refine Cf rfl ?_|refine Bi rfl ?_|refine Bz rfl ?_|refine Lr ?_);conv=>whnf))
    rw [if_pos (show decide (el (dL b k w i [] false) y < 0) = true by unfold el; rw [hbk]; exact g)]
    exact ⟨rfl, rfl, rfl⟩
  rw [if_neg (show ¬ (decide (el (dL b k w i [] false) y < 0) = true) by unfold el; rw [hbk, g]; simp)]
  have g' : 0 ≤ el (dL b k w y [] true) i := by have := of_decide_eq_false g; unfold el; omega
  have hcw : cntW b k w i y = satI (WkC (bCo b k w) (nx b.m) y (el (dL b k w y [] true) i).toNat i) := by
    unfold cntW
    rw [show el (dL b k w i [] false) y = el (dL b k w y [] true) i from hbk]
  rw [hcw]
  clear hcw hbk
  generalize hLL : dL b k w y [] true = F at *
  clear g hLL
  have hSm : SmN F := fun j => by
    by_cases c : j.toNat < F.length
    · exact hsm j.toNat (by omega)
    · unfold el
      rw [List.getD_eq_getElem?_getD, List.getElem?_eq_none (by omega)]
      decide
  ((conv=>whnf);repeat((first|refine Ct ‹_› ?_|refine Cf ‹_› ?_|refine Ct rfl ?_|refine Cf rfl ?_|refine Bi rfl ?_|refine Bz rfl ?_|refine Lr ?_);conv=>whnf))
  refine Rw_i (rwI []) (rwI_nil _) ?_
  ((conv=>whnf);repeat((first|refine Ct ‹_› ?_|refine Cf ‹_› ?_|refine Ct rfl ?_|refine Cf rfl ?_|refine Bi rfl ?_|refine Bz rfl ?_|refine Lr ?_);conv=>whnf))
  refine WLoop_v2 ⟨[1, 2, 3, 4, 5, 12, 13, 41, 42], [12, 5], [(40, 1000012)]⟩ (fun (x : Int) (out : List Int) => hdS 129 [(1, .v (vI k)), (2, .v (vI w)), (3, .v (vI i)), (4, .v (vI y)), (5, .v (.one (.box 5 0))), (12, .v (.one (.box 12 0))), (13, .v (.one (.own (vkey 13) out.length))), (41, .v (vI F.length)), (42, .v (vI x)), (40, .v (.one (.own (bkey 12 0) F.length)))] [(12, [.own (bkey 12 0) F.length]), (5, b.cs)] [(bkey 12 0, rwI F), (vkey 13, rwI out)])
    (fun q x out => 0 ≤ x ∧ x + q = F.length ∧ out = selN (fun z => decide (0 ≤ el F z)) x.toNat) F.length 0 [] rfl ⟨by omega, by omega, rfl⟩ ?_
  rintro q x out ⟨x0, hq, ho⟩
  have hol := selN_le (fun z => decide (0 ≤ el F z)) x.toNat
  rw [← ho] at hol
  have hnx : selN (fun z => decide (0 ≤ el F z)) (x + 1).toNat = if decide (0 ≤ el F x) = true then out ++ [x] else out := by
    rw [show (x + 1).toNat = x.toNat + 1 by omega, selN, ← ho, show ((x.toNat : Nat) : Int) = x by omega]
  ((conv=>whnf);repeat((first|refine Ct ‹_› ?_|refine Cf ‹_› ?_|refine Ct rfl ?_|refine Cf rfl ?_|refine Bi rfl ?_|refine Bz rfl ?_|refine Lr ?_);conv=>whnf))
  refine Cnd_i (fun g => ?_) (fun g => ?_)
  · have hx := of_decide_eq_true g
    ((conv=>whnf);repeat((first|refine Ct ‹_› ?_|refine Cf ‹_› ?_|refine Ct rfl ?_|refine Cf rfl ?_|refine Bi rfl ?_|refine Bz rfl ?_|refine Lr ?_);conv=>whnf))
    refine Bnd_i (⟨x0, hx⟩) ?_; ((conv=>whnf);repeat((first|refine Ct ‹_› ?_|refine Cf ‹_› ?_|refine Ct rfl ?_|refine Cf rfl ?_|refine Bi rfl ?_|refine Bz rfl ?_|refine Lr ?_);conv=>whnf))
    refine Cnd_i (fun g2 => ?_) (fun g2 => ?_)
    · ((conv=>whnf);repeat((first|refine Ct ‹_› ?_|refine Cf ‹_› ?_|refine Ct rfl ?_|refine Cf rfl ?_|refine Bi rfl ?_|refine Bz rfl ?_|refine Lr ?_);conv=>whnf))
      refine Rw_self ?_
      ((conv=>whnf);repeat((first|refine Ct ‹_› ?_|refine Cf ‹_› ?_|refine Ct rfl ?_|refine Cf rfl ?_|refine Bi rfl ?_|refine Bz rfl ?_|refine Lr ?_);conv=>whnf))
      refine Bnd_i ?_ ?_
      · show out.length + 1 < _
        omega
      ((conv=>whnf);repeat((first|refine Ct ‹_› ?_|refine Cf ‹_› ?_|refine Ct rfl ?_|refine Cf rfl ?_|refine Bi rfl ?_|refine Bz rfl ?_|refine Lr ?_);conv=>whnf))
      refine Rw_i (rwI (out ++ [x])) (rwI_app _ _ _ rfl) ?_
      ((conv=>whnf);repeat((first|refine Ct ‹_› ?_|refine Cf ‹_› ?_|refine Ct rfl ?_|refine Cf rfl ?_|refine Bi rfl ?_|refine Bz rfl ?_|refine Lr ?_);conv=>whnf))
      rw [if_pos (show decide (0 ≤ el F x) = true from g2)] at hnx
      refine ⟨q - 1, x + 1, out ++ [x], ?_, by omega, by omega, by omega, hnx.symm⟩
      rw [wrapI (by omega)]; rfl
    · ((conv=>whnf);repeat((first|refine Ct ‹_› ?_|refine Cf ‹_› ?_|refine Ct rfl ?_|refine Cf rfl ?_|refine Bi rfl ?_|refine Bz rfl ?_|refine Lr ?_);conv=>whnf))
      rw [if_neg (show ¬ decide (0 ≤ el F x) = true by rw [show decide (0 ≤ el F x) = false from g2]; simp)] at hnx
      refine ⟨q - 1, x + 1, out, ?_, by omega, by omega, by omega, hnx.symm⟩
      rw [wrapI (by omega)]; rfl
  have hx := of_decide_eq_false g
  have hx : x.toNat = F.length := by omega
  rw [hx] at ho hol
  have hPl : Pls F out := fun z hz => by
    rw [ho] at hz
    have := (selN_mm _ _ z).1 hz
    exact ⟨this.1, this.2.1⟩
  clear g hnx
  obtain ⟨n, hol'⟩ : ∃ n, out.length = n := ⟨_, rfl⟩
  ((conv=>whnf);repeat((first|refine Ct ‹_› ?_|refine Cf ‹_› ?_|refine Ct rfl ?_|refine Cf rfl ?_|refine Bi rfl ?_|refine Bz rfl ?_|refine Lr ?_);conv=>whnf))
  rw [rwIn_eq hol', hol']
  refine CallRX_e (F_sortStable n (by omega) F hSm _ _ out hPl hol') ?_
  rintro _ _ _ ⟨rfl, rfl, O, rfl, m1, s1⟩
  have hO : OrdOk (el F) b.m.ter.length O := hlen ▸ OrdOk.of ho m1.perm (by rw [m1.len]; exact s1)
  have hOl := m1.len
  refine ⟨⟨rwIn_no _ _, rwI_no _, trivial⟩, ⟨rfl, rfl, rfl, rfl, rfl, rfl, rfl, rfl, trivial⟩, rfl, rfl, ?_⟩
  conv => whnf
  refine ⟨rfl, ?_⟩
  clear m1 s1 hPl ho
  ((conv=>whnf);repeat((first|refine Ct ‹_› ?_|refine Cf ‹_› ?_|refine Ct rfl ?_|refine Cf rfl ?_|refine Bi rfl ?_|refine Bz rfl ?_|refine Lr ?_);conv=>whnf))
  (refine CallQ_some (F_sizeOf b) ?_ ?_ ?_; rfl; rfl); ((conv=>whnf);repeat((first|refine Ct ‹_› ?_|refine Cf ‹_› ?_|refine Ct rfl ?_|refine Cf rfl ?_|refine Bi rfl ?_|refine Bz rfl ?_|refine Lr ?_);conv=>whnf))
  refine Bnd_i (by omega) ?_
  ((conv=>whnf);repeat((first|refine Ct ‹_› ?_|refine Cf ‹_› ?_|refine Ct rfl ?_|refine Cf rfl ?_|refine Bi rfl ?_|refine Bz rfl ?_|refine Lr ?_);conv=>whnf))
  refine Rw_i (rwIn b.m.ter.length (List.replicate b.m.ter.length 0)) (rwIn_zero _) ?_
  ((conv=>whnf);repeat((first|refine Ct ‹_› ?_|refine Cf ‹_› ?_|refine Ct rfl ?_|refine Cf rfl ?_|refine Bi rfl ?_|refine Bz rfl ?_|refine Lr ?_);conv=>whnf))
  refine Bnd_i (⟨y0.1, y0.2⟩) ?_; ((conv=>whnf);repeat((first|refine Ct ‹_› ?_|refine Cf ‹_› ?_|refine Ct rfl ?_|refine Cf rfl ?_|refine Bi rfl ?_|refine Bz rfl ?_|refine Lr ?_);conv=>whnf))
  refine Rw_i (rwIn b.m.ter.length ((List.replicate b.m.ter.length 0).set y.toNat 1)) (rwIn_set _ _ _ _ (by simp; omega)) ?_
  ((conv=>whnf);repeat((first|refine Ct ‹_› ?_|refine Cf ‹_› ?_|refine Ct rfl ?_|refine Cf rfl ?_|refine Bi rfl ?_|refine Bz rfl ?_|refine Lr ?_);conv=>whnf))
  refine WLoop_v2 ⟨[1, 2, 3, 5, 12, 16, 63, 64, 65], [12, 5], []⟩ (fun (p : Int) (M : List Int) => hdS 129 [(1, .v (vI k)), (2, .v (vI w)), (3, .v (vI i)), (5, .v (.one (.box 5 0))), (12, .v (.one (.box 12 0))), (16, .v (.one (.own (vkey 16) b.m.ter.length))), (63, .v (.one (.own (vkey 63) n))), (64, .v (vI n)), (65, .v (vI p))] [(12, [.own (bkey 12 0) F.length]), (5, b.cs)] [(bkey 12 0, rwI F), (vkey 16, rwIn b.m.ter.length M), (vkey 63, rwIn n O)])
    (fun q p M => 0 ≤ p ∧ p + q = n ∧ M.length = b.m.ter.length ∧ ∀ z : Int, 0 ≤ z → z < b.m.ter.length → el M z = Cnt (bCo b k w) (nx b.m) y (el F) O p z) n 0 _ rfl ⟨by omega, by omega, by simp, fun z z0 z1 => by
      rw [Cnt_0, el_set y0.1 (by simp; omega) z0]
      split
      · rfl
      · unfold el
        rw [List.getD_eq_getElem?_getD, List.getElem?_replicate]
        split <;> rfl⟩ ?_
  rintro q p M ⟨p0, hq2, hM, hA0⟩
  ((conv=>whnf);repeat((first|refine Ct ‹_› ?_|refine Cf ‹_› ?_|refine Ct rfl ?_|refine Cf rfl ?_|refine Bi rfl ?_|refine Bz rfl ?_|refine Lr ?_);conv=>whnf))
  refine Cnd_i (fun g => ?_) (fun g => ?_)
  rotate_left
  · have hp := of_decide_eq_false g
    have hpn : p = (O.length : Int) := by omega
    have hMi : el M i = satI (WkC (bCo b k w) (nx b.m) y (el F i).toNat i) := by rw [hA0 i i0.1 i0.2, hpn, Cnt_n hO i0.1 i0.2 g']
    ((conv=>whnf);repeat((first|refine Ct ‹_› ?_|refine Cf ‹_› ?_|refine Ct rfl ?_|refine Cf rfl ?_|refine Bi rfl ?_|refine Bz rfl ?_|refine Lr ?_);conv=>whnf))
    refine Bnd_i (⟨i0.1, by omega⟩) ?_; ((conv=>whnf);repeat((first|refine Ct ‹_› ?_|refine Cf ‹_› ?_|refine Ct rfl ?_|refine Cf rfl ?_|refine Bi rfl ?_|refine Bz rfl ?_|refine Lr ?_);conv=>whnf))
    rw [← hMi]
    refine Cnd_i (fun g => ?_) (fun g => ?_)
    · ((conv=>whnf);repeat((first|refine Ct ‹_› ?_|refine Cf ‹_› ?_|refine Ct rfl ?_|refine Cf rfl ?_|refine Bi rfl ?_|refine Bz rfl ?_|refine Lr ?_);conv=>whnf))
      rw [if_pos (show decide (el M i > 1000000000) = true from g)]
      exact ⟨rfl, rfl, rfl⟩
    · ((conv=>whnf);repeat((first|refine Ct ‹_› ?_|refine Cf ‹_› ?_|refine Ct rfl ?_|refine Cf rfl ?_|refine Bi rfl ?_|refine Bz rfl ?_|refine Lr ?_);conv=>whnf))
      refine Bnd_i (⟨i0.1, by omega⟩) ?_; ((conv=>whnf);repeat((first|refine Ct ‹_› ?_|refine Cf ‹_› ?_|refine Ct rfl ?_|refine Cf rfl ?_|refine Bi rfl ?_|refine Bz rfl ?_|refine Lr ?_);conv=>whnf))
      rw [if_neg (show ¬ (decide (el M i > 1000000000) = true) by rw [show decide (el M i > 1000000000) = false from g]; simp)]
      exact ⟨rfl, rfl, rfl⟩
  have hp := of_decide_eq_true g
  have p1 : p < (O.length : Int) := by omega
  have hpx := hO.pos p p0 p1
  have hA : ∀ z : Int, 0 ≤ z → z < b.m.ter.length → el M z = CntX (bCo b k w) (nx b.m) y (el F) O p 0 z := fun z z0 z1 => by rw [hA0 z z0 z1, CntX_0 hO p1]
  ((conv=>whnf);repeat((first|refine Ct ‹_› ?_|refine Cf ‹_› ?_|refine Ct rfl ?_|refine Cf rfl ?_|refine Bi rfl ?_|refine Bz rfl ?_|refine Lr ?_);conv=>whnf))
  refine Bnd_i (⟨p0, by omega⟩) ?_; ((conv=>whnf);repeat((first|refine Ct ‹_› ?_|refine Cf ‹_› ?_|refine Ct rfl ?_|refine Cf rfl ?_|refine Bi rfl ?_|refine Bz rfl ?_|refine Lr ?_);conv=>whnf))
  refine WLoop_abs (fun e st => e = Ex.exit 4 ∧ ∃ (d : Int) (M : List Int), st = hdS 129 [(1, .v (vI k)), (2, .v (vI w)), (3, .v (vI i)), (5, .v (.one (.box 5 0))), (12, .v (.one (.box 12 0))), (16, .v (.one (.own (vkey 16) b.m.ter.length))), (18, .v (vI (el O p))), (63, .v (.one (.own (vkey 63) n))), (64, .v (vI n)), (65, .v (vI p)), (69, .v (vI d)), (70, .v (vB (decide (d < 6))))] [(12, [.own (bkey 12 0) F.length]), (5, b.cs)] [(bkey 12 0, rwI F), (vkey 16, rwIn b.m.ter.length M), (vkey 63, rwIn n O)] ∧ M.length = b.m.ter.length ∧ ∀ z : Int, 0 ≤ z → z < b.m.ter.length → el M z = Cnt (bCo b k w) (nx b.m) y (el F) O (p + 1) z) ?_ ?_
  · clear hM hA hA0 M
    intro e st hR
    obtain ⟨h1, d, M, h2, hM, hA⟩ := hR
    subst h1
    subst h2
    ((conv=>whnf);repeat((first|refine Ct ‹_› ?_|refine Cf ‹_› ?_|refine Ct rfl ?_|refine Cf rfl ?_|refine Bi rfl ?_|refine Bz rfl ?_|refine Lr ?_);conv=>whnf))
    refine ⟨q - 1, p + 1, M, ?_, by omega, by omega, by omega, hM, hA⟩
    rw [wrapI (by omega)]; rfl
  intro Q' hQ'
  refine WLoop_v2 ⟨[1, 2, 3, 5, 12, 16, 18, 63, 64, 65, 69], [12, 5], []⟩ (fun (d : Int) (M : List Int) => hdS 129 [(1, .v (vI k)), (2, .v (vI w)), (3, .v (vI i)), (5, .v (.one (.box 5 0))), (12, .v (.one (.box 12 0))), (16, .v (.one (.own (vkey 16) b.m.ter.length))), (18, .v (vI (el O p))), (63, .v (.one (.own (vkey 63) n))), (64, .v (vI n)), (65, .v (vI p)), (69, .v (vI d))] [(12, [.own (bkey 12 0) F.length]), (5, b.cs)] [(bkey 12 0, rwI F), (vkey 16, rwIn b.m.ter.length M), (vkey 63, rwIn n O)])
    (fun q d M => 0 ≤ d ∧ d + q = 6 ∧ M.length = b.m.ter.length ∧ ∀ z : Int, 0 ≤ z → z < b.m.ter.length → el M z = CntX (bCo b k w) (nx b.m) y (el F) O p d z) 6 0 M rfl ⟨by omega, by omega, hM, hA⟩ ?_
  clear hM hA hA0 M
  rintro q3 d M ⟨d0, hq3, hM, hA⟩
  ((conv=>whnf);repeat((first|refine Ct ‹_› ?_|refine Cf ‹_› ?_|refine Ct rfl ?_|refine Cf rfl ?_|refine Bi rfl ?_|refine Bz rfl ?_|refine Lr ?_);conv=>whnf))
  refine Cnd_i (fun g => ?_) (fun g => ?_)
  rotate_left
  · have hd := of_decide_eq_false g
    have hd6 : d = 6 := by omega
    ((conv=>whnf);repeat((first|refine Ct ‹_› ?_|refine Cf ‹_› ?_|refine Ct rfl ?_|refine Cf rfl ?_|refine Bi rfl ?_|refine Bz rfl ?_|refine Lr ?_);conv=>whnf))
    refine hQ' _ _ ⟨rfl, d, M, rfl, hM, fun z z0 z1 => by rw [hA z z0 z1, hd6, CntX_6 hto hO p0 p1]⟩
  have hd : d < 6 := of_decide_eq_true g
  have hsb := stepC_b h (i := el O p) (d := d) k0 w0
  have hno : ¬ TigI (bCo b k w) (nx b.m) (el F) (el O p) d → ∀ z : Int, 0 ≤ z → z < b.m.ter.length → el M z = CntX (bCo b k w) (nx b.m) y (el F) O p (d + 1) z := fun hh z z0 z1 => by rw [CntX_n d0 hh]; exact hA z z0 z1
  ((conv=>whnf);repeat((first|refine Ct ‹_› ?_|refine Cf ‹_› ?_|refine Ct rfl ?_|refine Cf rfl ?_|refine Bi rfl ?_|refine Bz rfl ?_|refine Lr ?_);conv=>whnf))
  (refine CallQ_some (F_stepCost b h k (el O p) d w k0.1 k0.2 hpx.1 hpx.2.1 d0 (by omega) w0.1 w0.2) ?_ ?_ ?_; rfl; rfl); ((conv=>whnf);repeat((first|refine Ct ‹_› ?_|refine Cf ‹_› ?_|refine Ct rfl ?_|refine Cf rfl ?_|refine Bi rfl ?_|refine Bz rfl ?_|refine Lr ?_);conv=>whnf))
  (refine CallQ_some (F_nextTo b.m h.wh (el O p) d hpx.1 (by omega) d0 (by omega)) ?_ ?_ ?_; rfl; rfl); ((conv=>whnf);repeat((first|refine Ct ‹_› ?_|refine Cf ‹_› ?_|refine Ct rfl ?_|refine Cf rfl ?_|refine Bi rfl ?_|refine Bz rfl ?_|refine Lr ?_);conv=>whnf))
  refine Cnd_i (fun g => ?_) (fun g => ?_)
  rotate_left
  · have e2 := of_decide_eq_false g
    ((conv=>whnf);repeat((first|refine Ct ‹_› ?_|refine Cf ‹_› ?_|refine Ct rfl ?_|refine Cf rfl ?_|refine Bi rfl ?_|refine Bz rfl ?_|refine Lr ?_);conv=>whnf))
    refine ⟨q3 - 1, d + 1, M, ?_, by omega, by omega, by omega, hM, hno (fun hh => e2 hh.1)⟩
    rw [wrapI (n := d + 1) (by omega)]; rfl
  have e2 : 0 < stepC b k (el O p) d w := of_decide_eq_true g
  have hnx := hsb.2.2 (by omega)
  ((conv=>whnf);repeat((first|refine Ct ‹_› ?_|refine Cf ‹_› ?_|refine Ct rfl ?_|refine Cf rfl ?_|refine Bi rfl ?_|refine Bz rfl ?_|refine Lr ?_);conv=>whnf))
  refine Bnd_i (⟨hnx.1, by omega⟩) ?_; ((conv=>whnf);repeat((first|refine Ct ‹_› ?_|refine Cf ‹_› ?_|refine Ct rfl ?_|refine Cf rfl ?_|refine Bi rfl ?_|refine Bz rfl ?_|refine Lr ?_);conv=>whnf))
  refine Cnd_i (fun g => ?_) (fun g => ?_)
  rotate_left
  · have g5' := of_decide_eq_false g
    ((conv=>whnf);repeat((first|refine Ct ‹_› ?_|refine Cf ‹_› ?_|refine Ct rfl ?_|refine Cf rfl ?_|refine Bi rfl ?_|refine Bz rfl ?_|refine Lr ?_);conv=>whnf))
    refine ⟨q3 - 1, d + 1, M, ?_, by omega, by omega, by omega, hM, hno (fun hh => g5' hh.2.1)⟩
    rw [wrapI (n := d + 1) (by omega)]; rfl
  have g5' : 0 ≤ F.getD (nx b.m (el O p) d).toNat 0 := of_decide_eq_true g
  have hl2 := hsm (nx b.m (el O p) d).toNat (by omega)
  ((conv=>whnf);repeat((first|refine Ct ‹_› ?_|refine Cf ‹_› ?_|refine Ct rfl ?_|refine Cf rfl ?_|refine Bi rfl ?_|refine Bz rfl ?_|refine Lr ?_);conv=>whnf))
  refine Bnd_i (⟨hnx.1, by omega⟩) ?_; ((conv=>whnf);repeat((first|refine Ct ‹_› ?_|refine Cf ‹_› ?_|refine Ct rfl ?_|refine Cf rfl ?_|refine Bi rfl ?_|refine Bz rfl ?_|refine Lr ?_);conv=>whnf))
  refine Bnd_i (⟨hpx.1, by omega⟩) ?_; ((conv=>whnf);repeat((first|refine Ct ‹_› ?_|refine Cf ‹_› ?_|refine Ct rfl ?_|refine Cf rfl ?_|refine Bi rfl ?_|refine Bz rfl ?_|refine Lr ?_);conv=>whnf))
  have hc : (IntKind.i64.wrap (F.getD (nx b.m (el O p) d).toNat 0 + stepC b k (el O p) d w) == F.getD (el O p).toNat 0) = decide (F.getD (nx b.m (el O p) d).toNat 0 + stepC b k (el O p) d w = F.getD (el O p).toNat 0) := by rw [wrapI (by omega)]; rfl
  refine Cnd_i (fun g => ?_) (fun g => ?_)
  rotate_left
  · have g6' := of_decide_eq_false (hc.symm.trans g)
    ((conv=>whnf);repeat((first|refine Ct ‹_› ?_|refine Cf ‹_› ?_|refine Ct rfl ?_|refine Cf rfl ?_|refine Bi rfl ?_|refine Bz rfl ?_|refine Lr ?_);conv=>whnf))
    refine ⟨q3 - 1, d + 1, M, ?_, by omega, by omega, by omega, hM, hno (fun hh => g6' hh.2.2)⟩
    rw [wrapI (n := d + 1) (by omega)]; rfl
  have g6' := of_decide_eq_true (hc.symm.trans g)
  have hT : TigI (bCo b k w) (nx b.m) (el F) (el O p) d := ⟨e2, g5', g6'⟩
  have b1 := CntX_b (cost := bCo b k w) (next := nx b.m) (y := y) (lf := el F) (O := O) p d (el O p)
  have b2 := CntX_b (cost := bCo b k w) (next := nx b.m) (y := y) (lf := el F) (O := O) p d (nx b.m (el O p) d)
  have hs : (if (1000000001 : Int) < IntKind.i64.wrap (M.getD (el O p).toNat 0 + M.getD (nx b.m (el O p) d).toNat 0) then 1000000001 else IntKind.i64.wrap (M.getD (el O p).toNat 0 + M.getD (nx b.m (el O p) d).toNat 0)) = CntX (bCo b k w) (nx b.m) y (el F) O p (d + 1) (el O p) := by
    have e1 : M.getD (nx b.m (el O p) d).toNat 0 = el M (nx b.m (el O p) d) := rfl
    have e2 : M.getD (el O p).toNat 0 = el M (el O p) := rfl
    rw [CntX_d hto hO p0 p1 d0 (by omega) hT, if_pos rfl, e1, e2, hA _ hnx.1 hnx.2, hA _ hpx.1 hpx.2.1, wrapI (by omega)]
  clear b1 b2
  ((conv=>whnf);repeat((first|refine Ct ‹_› ?_|refine Cf ‹_› ?_|refine Ct rfl ?_|refine Cf rfl ?_|refine Bi rfl ?_|refine Bz rfl ?_|refine Lr ?_);conv=>whnf))
  refine Bnd_i (⟨hpx.1, by omega⟩) ?_; ((conv=>whnf);repeat((first|refine Ct ‹_› ?_|refine Cf ‹_› ?_|refine Ct rfl ?_|refine Cf rfl ?_|refine Bi rfl ?_|refine Bz rfl ?_|refine Lr ?_);conv=>whnf))
  refine Bnd_i (⟨hnx.1, by omega⟩) ?_; ((conv=>whnf);repeat((first|refine Ct ‹_› ?_|refine Cf ‹_› ?_|refine Ct rfl ?_|refine Cf rfl ?_|refine Bi rfl ?_|refine Bz rfl ?_|refine Lr ?_);conv=>whnf))
  refine Bnd_i (⟨hpx.1, by omega⟩) ?_; ((conv=>whnf);repeat((first|refine Ct ‹_› ?_|refine Cf ‹_› ?_|refine Ct rfl ?_|refine Cf rfl ?_|refine Bi rfl ?_|refine Bz rfl ?_|refine Lr ?_);conv=>whnf))
  refine Rw_i (rwIn b.m.ter.length (M.set (el O p).toNat (CntX (bCo b k w) (nx b.m) y (el F) O p (d + 1) (el O p)))) (by rw [← hs]; exact rwIn_set _ _ _ _ (by omega)) ?_
  ((conv=>whnf);repeat((first|refine Ct ‹_› ?_|refine Cf ‹_› ?_|refine Ct rfl ?_|refine Cf rfl ?_|refine Bi rfl ?_|refine Bz rfl ?_|refine Lr ?_);conv=>whnf))
  refine ⟨q3 - 1, d + 1, M.set (el O p).toNat (CntX (bCo b k w) (nx b.m) y (el F) O p (d + 1) (el O p)), ?_, by omega, by omega, by omega, by rw [List.length_set]; exact hM, fun z z0 z1 => ?_⟩
  · rw [wrapI (n := d + 1) (by omega)]; rfl
  · rw [el_set hpx.1 (by omega) z0]
    by_cases c : z = el O p
    · rw [if_pos c, c]
    · rw [if_neg c, CntX_d hto hO p0 p1 d0 (by omega) hT, if_neg c]
      exact hA z z0 z1

theorem F_FnExactCountCheapest (x0 : Brd) (x1 : Int) (x2 : Int) (x3 : Int) (x4 : Int) (o0 : x0.Ok) (o1 : i64 x1) (o2 : i64 x2) (o3 : i64 x3) (o4 : i64 x4) :
    Fun E0 3 [.agg x0.cs, vI x1, vI x2, vI x3, vI x4] [] (.v (vB true)) [] [] := by
  have hS := F_CountCheapest x0 o0 x1 x2 x3 x4
  have hI := F_CountCheapestI x0 o0 x1 x2 x3 x4
  revert hS hI
  generalize ctcR x0 x1 x2 x3 x4 = RR
  obtain ⟨r0, r1⟩ := RR
  intro hS hI
  dsimp only at hS
  dsimp only at hI
  refine Fun_of_xc k3 rfl rfl (fun k q h => by cases h) ?_
  ((conv=>whnf);repeat((first|refine Ct ‹_› ?_|refine Cf ‹_› ?_|refine Ct rfl ?_|refine Cf rfl ?_|refine Bi rfl ?_|refine Bz rfl ?_|refine Lr ?_);conv=>whnf))
  (refine CallQ_some (F_szBoard x0 o0 1048576 (by omega) (by omega)) ?_ ?_ ?_; rfl; rfl); ((conv=>whnf);repeat((first|refine Ct ‹_› ?_|refine Cf ‹_› ?_|refine Ct rfl ?_|refine Cf rfl ?_|refine Bi rfl ?_|refine Bz rfl ?_|refine Lr ?_);conv=>whnf))
  refine Cnd_i (fun g => ?_) (fun g => ?_)
  · ((conv=>whnf);repeat((first|refine Ct ‹_› ?_|refine Cf ‹_› ?_|refine Ct rfl ?_|refine Cf rfl ?_|refine Bi rfl ?_|refine Bz rfl ?_|refine Lr ?_);conv=>whnf))
    exact ⟨rfl, rfl, rfl⟩
  have sm0 := szB_sm (b := x0) (x := 1048576) (by omega) (by omega) (of_decide_eq_false g)
  have s0 := sm0.1
  have sb0 := sm0.2
  have sc0 := of_decide_eq_false g
  ((conv=>whnf);repeat((first|refine Ct ‹_› ?_|refine Cf ‹_› ?_|refine Ct rfl ?_|refine Cf rfl ?_|refine Bi rfl ?_|refine Bz rfl ?_|refine Lr ?_);conv=>whnf))
  (refine CallQ_some (F_toBoard x0 s0) ?_ ?_ ?_; rfl; rfl); ((conv=>whnf);repeat((first|refine Ct ‹_› ?_|refine Cf ‹_› ?_|refine Ct rfl ?_|refine Cf rfl ?_|refine Bi rfl ?_|refine Bz rfl ?_|refine Lr ?_);conv=>whnf))
  refine CallQ_eq (snapB x0 _) ?_
  (refine CallQ_some (hS) ?_ ?_ ?_; rfl; rfl); ((conv=>whnf);repeat((first|refine Ct ‹_› ?_|refine Cf ‹_› ?_|refine Ct rfl ?_|refine Cf rfl ?_|refine Bi rfl ?_|refine Bz rfl ?_|refine Lr ?_);conv=>whnf))
  (refine CallQ_some (F_toBoard x0 s0) ?_ ?_ ?_; rfl; rfl); ((conv=>whnf);repeat((first|refine Ct ‹_› ?_|refine Cf ‹_› ?_|refine Ct rfl ?_|refine Cf rfl ?_|refine Bi rfl ?_|refine Bz rfl ?_|refine Lr ?_);conv=>whnf))
  refine CallQ_eq (snapB x0 _) ?_
  (refine CallQ_some (hI) ?_ ?_ ?_; rfl; rfl); ((conv=>whnf);repeat((first|refine Ct ‹_› ?_|refine Cf ‹_› ?_|refine Ct rfl ?_|refine Cf rfl ?_|refine Bi rfl ?_|refine Bz rfl ?_|refine Lr ?_);conv=>whnf))
  repeat (refine Cnd_f (by simp) ?_; ((conv=>whnf);repeat((first|refine Ct ‹_› ?_|refine Cf ‹_› ?_|refine Ct rfl ?_|refine Cf rfl ?_|refine Bi rfl ?_|refine Bz rfl ?_|refine Lr ?_);conv=>whnf)))
  repeat (refine Cnd_f (by simp) ?_; ((conv=>whnf);repeat((first|refine Ct ‹_› ?_|refine Cf ‹_› ?_|refine Ct rfl ?_|refine Cf rfl ?_|refine Bi rfl ?_|refine Bz rfl ?_|refine Lr ?_);conv=>whnf)))
  repeat (refine Cnd_f (by simp) ?_; ((conv=>whnf);repeat((first|refine Ct ‹_› ?_|refine Cf ‹_› ?_|refine Ct rfl ?_|refine Cf rfl ?_|refine Bi rfl ?_|refine Bz rfl ?_|refine Lr ?_);conv=>whnf)))
  (refine CallQ_some (F_toBoard x0 s0) ?_ ?_ ?_; rfl; rfl); ((conv=>whnf);repeat((first|refine Ct ‹_› ?_|refine Cf ‹_› ?_|refine Ct rfl ?_|refine Cf rfl ?_|refine Bi rfl ?_|refine Bz rfl ?_|refine Lr ?_);conv=>whnf))
  refine CallQ_eq (snapBB x0) ?_
  (refine CallQ_some (F_eqBoard x0 s0) ?_ ?_ ?_; rfl; rfl); ((conv=>whnf);repeat((first|refine Ct ‹_› ?_|refine Cf ‹_› ?_|refine Ct rfl ?_|refine Cf rfl ?_|refine Bi rfl ?_|refine Bz rfl ?_|refine Lr ?_);conv=>whnf))
  exact ⟨rfl, rfl, rfl⟩
end Go.Proofs.YtjnpnpkjmlihdaaDoor.Ab
