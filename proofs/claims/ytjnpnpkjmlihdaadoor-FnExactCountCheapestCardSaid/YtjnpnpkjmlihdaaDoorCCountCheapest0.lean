/- Contracts of the functions that FnExactCountCheapest reaches, by the abstract machine (part 0).
   Conditions: none. -/
import Derived.Test.YtjnpnpkjmlihdaaDoorKCountCheapest
set_option linter.unusedVariables false
set_option linter.unusedSimpArgs false
namespace Go.Proofs.YtjnpnpkjmlihdaaDoor.Ab
open Go Go.RowKit
attribute [local irreducible] Cnd Bnd Rw CallQ CallR CallRX Bts Isn Lc WLoop
set_option maxRecDepth 100000
set_option maxHeartbeats 1000000
noncomputable def E0 : Env := ⟨Tryd.prog, [(0, (12, dirs))], []⟩

def In (a lo hi : Int) : Bool := decide (lo ≤ a ∧ a ≤ hi)

theorem F_l1In (a lo hi : Int) : Fun E0 31 [vI a, vI lo, vI hi] [] (.v (vB (In a lo hi))) [] [] := by
  refine Fun_of_xc k31 rfl rfl (fun k q h => by cases h) ?_
  ((conv=>whnf);repeat((first|refine Ct ‹_› ?_|refine Cf ‹_› ?_|refine Ct rfl ?_|refine Cf rfl ?_|refine Bi rfl ?_|refine Bz rfl ?_|refine Lr ?_);conv=>whnf))
  refine Cnd_i (fun h => ?_) (fun h => ?_)
  · ((conv=>whnf);repeat((first|refine Ct ‹_› ?_|refine Cf ‹_› ?_|refine Ct rfl ?_|refine Cf rfl ?_|refine Bi rfl ?_|refine Bz rfl ?_|refine Lr ?_);conv=>whnf))
    refine ⟨?_, rfl, rfl⟩
    have h' : lo ≤ a := of_decide_eq_true h
    simp [In, h', tupOf]
  · ((conv=>whnf);repeat((first|refine Ct ‹_› ?_|refine Cf ‹_› ?_|refine Ct rfl ?_|refine Cf rfl ?_|refine Bi rfl ?_|refine Bz rfl ?_|refine Lr ?_);conv=>whnf))
    refine ⟨?_, rfl, rfl⟩
    have h' : ¬ lo ≤ a := of_decide_eq_false h
    simp [In, h', tupOf]

theorem F_inRange (a lo hi : Int) : Fun E0 66 [vI a, vI lo, vI hi] [] (.v (vB (In a lo hi))) [] [] := by
  refine Fun_of_xc k66 rfl rfl (fun k q h => by cases h) ?_
  ((conv=>whnf);repeat((first|refine Ct ‹_› ?_|refine Cf ‹_› ?_|refine Ct rfl ?_|refine Cf rfl ?_|refine Bi rfl ?_|refine Bz rfl ?_|refine Lr ?_);conv=>whnf))
  refine Cnd_i (fun h => ?_) (fun h => ?_)
  · ((conv=>whnf);repeat((first|refine Ct ‹_› ?_|refine Cf ‹_› ?_|refine Ct rfl ?_|refine Cf rfl ?_|refine Bi rfl ?_|refine Bz rfl ?_|refine Lr ?_);conv=>whnf))
    refine ⟨?_, rfl, rfl⟩
    have h' : lo ≤ a := of_decide_eq_true h
    simp [In, h', tupOf]
  · ((conv=>whnf);repeat((first|refine Ct ‹_› ?_|refine Cf ‹_› ?_|refine Ct rfl ?_|refine Cf rfl ?_|refine Bi rfl ?_|refine Bz rfl ?_|refine Lr ?_);conv=>whnf))
    refine ⟨?_, rfl, rfl⟩
    have h' : ¬ lo ≤ a := of_decide_eq_false h
    simp [In, h', tupOf]

theorem F_isIndex (i n : Int) (hn : i64 n ∧ -9223372036854775808 < n) : Fun E0 45 [vI i, vI n] [] (.v (vB (In i 0 (n - 1)))) [] [] := by
  refine Fun_of_xc k45 rfl rfl (fun k q h => by cases h) ?_
  ((conv=>whnf);repeat((first|refine Ct ‹_› ?_|refine Cf ‹_› ?_|refine Ct rfl ?_|refine Cf rfl ?_|refine Bi rfl ?_|refine Bz rfl ?_|refine Lr ?_);conv=>whnf))
  refine CallQ_some (F_inRange _ _ _) rfl rfl ?_
  ((conv=>whnf);repeat((first|refine Ct ‹_› ?_|refine Cf ‹_› ?_|refine Ct rfl ?_|refine Cf rfl ?_|refine Bi rfl ?_|refine Bz rfl ?_|refine Lr ?_);conv=>whnf))
  refine ⟨?_, rfl, rfl⟩
  rw [wrapI (by unfold i64 at hn; omega)]; rfl

theorem F_isWeather (i : Int) : Fun E0 65 [vI i] [] (.v (vB (In i 0 2))) [] [] := by
  refine Fun_of_xc k65 rfl rfl (fun k q h => by cases h) ?_
  ((conv=>whnf);repeat((first|refine Ct ‹_› ?_|refine Cf ‹_› ?_|refine Ct rfl ?_|refine Cf rfl ?_|refine Bi rfl ?_|refine Bz rfl ?_|refine Lr ?_);conv=>whnf))
  refine CallQ_some (F_inRange _ _ _) rfl rfl ?_
  ((conv=>whnf);repeat((first|refine Ct ‹_› ?_|refine Cf ‹_› ?_|refine Ct rfl ?_|refine Cf rfl ?_|refine Bi rfl ?_|refine Bz rfl ?_|refine Lr ?_);conv=>whnf))
  exact ⟨rfl, rfl, rfl⟩

/-- a map's sides are as they should be -/
structure WH (m : Map) : Prop where
  w1 : 1 ≤ m.w
  w2 : m.w ≤ 10
  h1 : 1 ≤ m.h
  h2 : m.h ≤ 10

theorem WH.mul {m : Map} (h : WH m) : 1 ≤ m.w * m.h ∧ m.w * m.h ≤ 100 := by
  obtain ⟨a, b, c, d⟩ := h
  constructor
  · have := Int.mul_le_mul a c (by omega) (by omega); omega
  · have := Int.mul_le_mul b d (by omega) (by omega); omega

def ix (m : Map) (q r : Int) : Int := if (0 ≤ q ∧ q ≤ m.w - 1) ∧ 0 ≤ r ∧ r ≤ m.h - 1 then r * m.w + q else -1

def dq (d : Int) : Int := dirL.getD (2 * d.toNat) 0

def dr (d : Int) : Int := dirL.getD (2 * d.toNat + 1) 0

def nx (m : Map) (i d : Int) : Int := ix m (i.tmod m.w + dq d) (i.tdiv m.w + dr d)

theorem F_mSize (m : Map) (h : WH m) : Fun E0 32 [.agg m.cs] [] (.v (vI (m.w * m.h))) [] [] := by
  refine Fun_of_xc k32 rfl rfl (fun k q h => by cases h) ?_
  ((conv=>whnf);repeat((first|refine Ct ‹_› ?_|refine Cf ‹_› ?_|refine Ct rfl ?_|refine Cf rfl ?_|refine Bi rfl ?_|refine Bz rfl ?_|refine Lr ?_);conv=>whnf))
  refine ⟨?_, rfl, rfl⟩
  have := h.mul
  rw [wrapI (by omega)]; rfl

theorem tdiv_b {i w : Int} (h0 : 0 ≤ i) (h1 : i ≤ 1000000) (hw : 1 ≤ w) : 0 ≤ i.tdiv w ∧ i.tdiv w ≤ i ∧ 0 ≤ i.tmod w ∧ i.tmod w < w := by
  rw [Int.tdiv_eq_ediv_of_nonneg h0, Int.tmod_eq_emod_of_nonneg h0]
  exact ⟨Int.ediv_nonneg h0 (by omega), Int.ediv_le_self _ h0, Int.emod_nonneg _ (by omega), Int.emod_lt_of_pos _ (by omega)⟩

theorem F_mHex (m : Map) (h : WH m) (i : Int) (h0 : 0 ≤ i) (h1 : i ≤ 1000000) : Fun E0 40 [.agg m.cs, vI i] [] (.v (.agg [cI (i.tmod m.w), cI (i.tdiv m.w)])) [] [] := by
  refine Fun_of_xc k40 rfl rfl (fun k q h => by cases h) ?_
  ((conv=>whnf);repeat((first|refine Ct ‹_› ?_|refine Cf ‹_› ?_|refine Ct rfl ?_|refine Cf rfl ?_|refine Bi rfl ?_|refine Bz rfl ?_|refine Lr ?_);conv=>whnf))
  refine Bnd_i (by have := h.w1; omega) ?_
  ((conv=>whnf);repeat((first|refine Ct ‹_› ?_|refine Cf ‹_› ?_|refine Ct rfl ?_|refine Cf rfl ?_|refine Bi rfl ?_|refine Bz rfl ?_|refine Lr ?_);conv=>whnf))
  refine Bnd_i (by have := h.w1; omega) ?_
  ((conv=>whnf);repeat((first|refine Ct ‹_› ?_|refine Cf ‹_› ?_|refine Ct rfl ?_|refine Cf rfl ?_|refine Bi rfl ?_|refine Bz rfl ?_|refine Lr ?_);conv=>whnf))
  refine ⟨?_, rfl, rfl⟩
  have := tdiv_b h0 h1 h.w1
  rw [wrapI (n := i.tdiv m.w) (by omega)]; rfl

theorem F_hexOf (m : Map) (h : WH m) (i : Int) (h0 : 0 ≤ i) (h1 : i ≤ 1000000) : Fun E0 53 [.agg m.cs, vI i] [] (.v (.agg [cI (i.tmod m.w), cI (i.tdiv m.w)])) [] [] := by
  refine Fun_of_xc k53 rfl rfl (fun k q h => by cases h) ?_
  ((conv=>whnf);repeat((first|refine Ct ‹_› ?_|refine Cf ‹_› ?_|refine Ct rfl ?_|refine Cf rfl ?_|refine Bi rfl ?_|refine Bz rfl ?_|refine Lr ?_);conv=>whnf))
  refine Bnd_i (by have := h.w1; omega) ?_
  ((conv=>whnf);repeat((first|refine Ct ‹_› ?_|refine Cf ‹_› ?_|refine Ct rfl ?_|refine Cf rfl ?_|refine Bi rfl ?_|refine Bz rfl ?_|refine Lr ?_);conv=>whnf))
  refine Bnd_i (by have := h.w1; omega) ?_
  ((conv=>whnf);repeat((first|refine Ct ‹_› ?_|refine Cf ‹_› ?_|refine Ct rfl ?_|refine Cf rfl ?_|refine Bi rfl ?_|refine Bz rfl ?_|refine Lr ?_);conv=>whnf))
  refine ⟨?_, rfl, rfl⟩
  have := tdiv_b h0 h1 h.w1
  rw [wrapI (n := i.tdiv m.w) (by omega)]; rfl

theorem ix_wrap {m : Map} (h : WH m) {q r : Int} (hq : 0 ≤ q ∧ q ≤ m.w - 1) (hr : 0 ≤ r ∧ r ≤ m.h - 1) : 0 ≤ r * m.w ∧ r * m.w + q ≤ m.w * m.h - 1 := by
  have h1 : 0 ≤ r * m.w := Int.mul_nonneg hr.1 (by have := h.w1; omega)
  have h2 : r * m.w ≤ (m.h - 1) * m.w := Int.mul_le_mul_of_nonneg_right hr.2 (by have := h.w1; omega)
  rw [Int.sub_mul, Int.one_mul, Int.mul_comm m.h m.w] at h2
  omega

theorem In_n {a lo hi : Int} (h : (!In a lo hi) = true) : ¬ (lo ≤ a ∧ a ≤ hi) := by
  unfold In at h
  simp only [Bool.not_eq_true', decide_eq_false_iff_not] at h
  exact h

theorem In_y {a lo hi : Int} (h : (!In a lo hi) = false) : lo ≤ a ∧ a ≤ hi := by
  unfold In at h
  simp only [Bool.not_eq_false', decide_eq_true_eq] at h
  exact h

theorem F_mIndex (m : Map) (h : WH m) (q r : Int) : Fun E0 38 [.agg m.cs, .agg [cI q, cI r]] [] (.v (vI (ix m q r))) [] [] := by
  have hw := h.w1; have hw2 := h.w2; have hh := h.h1; have hh2 := h.h2; have hm := h.mul; have W := h; clear h
  refine Fun_of_xc k38 rfl rfl (fun k q h => by cases h) ?_
  ((conv=>whnf);repeat((first|refine Ct ‹_› ?_|refine Cf ‹_› ?_|refine Ct rfl ?_|refine Cf rfl ?_|refine Bi rfl ?_|refine Bz rfl ?_|refine Lr ?_);conv=>whnf))
  refine CallQ_some (F_l1In _ _ _) rfl rfl ?_
  ((conv=>whnf);repeat((first|refine Ct ‹_› ?_|refine Cf ‹_› ?_|refine Ct rfl ?_|refine Cf rfl ?_|refine Bi rfl ?_|refine Bz rfl ?_|refine Lr ?_);conv=>whnf))
  rw [wrapI (n := m.w - 1) (by omega)]
  refine Cnd_i (fun h => ?_) (fun h => ?_)
  · ((conv=>whnf);repeat((first|refine Ct ‹_› ?_|refine Cf ‹_› ?_|refine Ct rfl ?_|refine Cf rfl ?_|refine Bi rfl ?_|refine Bz rfl ?_|refine Lr ?_);conv=>whnf))
    refine ⟨?_, rfl, rfl⟩
    rw [ix, if_neg (fun hh => In_n h hh.1)]; rfl
  · ((conv=>whnf);repeat((first|refine Ct ‹_› ?_|refine Cf ‹_› ?_|refine Ct rfl ?_|refine Cf rfl ?_|refine Bi rfl ?_|refine Bz rfl ?_|refine Lr ?_);conv=>whnf))
    refine CallQ_some (F_l1In _ _ _) rfl rfl ?_
    ((conv=>whnf);repeat((first|refine Ct ‹_› ?_|refine Cf ‹_› ?_|refine Ct rfl ?_|refine Cf rfl ?_|refine Bi rfl ?_|refine Bz rfl ?_|refine Lr ?_);conv=>whnf))
    rw [wrapI (n := m.h - 1) (by omega)]
    have hq := In_y h
    refine Cnd_i (fun h => ?_) (fun h => ?_)
    · ((conv=>whnf);repeat((first|refine Ct ‹_› ?_|refine Cf ‹_› ?_|refine Ct rfl ?_|refine Cf rfl ?_|refine Bi rfl ?_|refine Bz rfl ?_|refine Lr ?_);conv=>whnf))
      refine ⟨?_, rfl, rfl⟩
      rw [ix, if_neg (fun hh => In_n h hh.2)]; rfl
    · ((conv=>whnf);repeat((first|refine Ct ‹_› ?_|refine Cf ‹_› ?_|refine Ct rfl ?_|refine Cf rfl ?_|refine Bi rfl ?_|refine Bz rfl ?_|refine Lr ?_);conv=>whnf))
      refine ⟨?_, rfl, rfl⟩
      have hr := In_y h
      have := ix_wrap W hq hr
      rw [ix, if_pos ⟨hq, hr⟩, wrapI (n := r * m.w) (by omega), wrapI (by omega)]; rfl

theorem F_indexOf (m : Map) (h : WH m) (q r : Int) : Fun E0 51 [.agg m.cs, .agg [cI q, cI r]] [] (.v (vI (ix m q r))) [] [] := by
  have hw := h.w1; have hw2 := h.w2; have hh := h.h1; have hh2 := h.h2; have hm := h.mul; have W := h; clear h
  refine Fun_of_xc k51 rfl rfl (fun k q h => by cases h) ?_
  ((conv=>whnf);repeat((first|refine Ct ‹_› ?_|refine Cf ‹_› ?_|refine Ct rfl ?_|refine Cf rfl ?_|refine Bi rfl ?_|refine Bz rfl ?_|refine Lr ?_);conv=>whnf))
  refine CallQ_some (F_isIndex _ _ (by unfold i64; omega)) rfl rfl ?_
  ((conv=>whnf);repeat((first|refine Ct ‹_› ?_|refine Cf ‹_› ?_|refine Ct rfl ?_|refine Cf rfl ?_|refine Bi rfl ?_|refine Bz rfl ?_|refine Lr ?_);conv=>whnf))
  refine Cnd_i (fun h => ?_) (fun h => ?_)
  · ((conv=>whnf);repeat((first|refine Ct ‹_› ?_|refine Cf ‹_› ?_|refine Ct rfl ?_|refine Cf rfl ?_|refine Bi rfl ?_|refine Bz rfl ?_|refine Lr ?_);conv=>whnf))
    refine ⟨?_, rfl, rfl⟩
    rw [ix, if_neg (fun hh => In_n h hh.1)]; rfl
  · ((conv=>whnf);repeat((first|refine Ct ‹_› ?_|refine Cf ‹_› ?_|refine Ct rfl ?_|refine Cf rfl ?_|refine Bi rfl ?_|refine Bz rfl ?_|refine Lr ?_);conv=>whnf))
    refine CallQ_some (F_isIndex _ _ (by unfold i64; omega)) rfl rfl ?_
    ((conv=>whnf);repeat((first|refine Ct ‹_› ?_|refine Cf ‹_› ?_|refine Ct rfl ?_|refine Cf rfl ?_|refine Bi rfl ?_|refine Bz rfl ?_|refine Lr ?_);conv=>whnf))
    have hq := In_y h
    refine Cnd_i (fun h => ?_) (fun h => ?_)
    · ((conv=>whnf);repeat((first|refine Ct ‹_› ?_|refine Cf ‹_› ?_|refine Ct rfl ?_|refine Cf rfl ?_|refine Bi rfl ?_|refine Bz rfl ?_|refine Lr ?_);conv=>whnf))
      refine ⟨?_, rfl, rfl⟩
      rw [ix, if_neg (fun hh => In_n h hh.2)]; rfl
    · ((conv=>whnf);repeat((first|refine Ct ‹_› ?_|refine Cf ‹_› ?_|refine Ct rfl ?_|refine Cf rfl ?_|refine Bi rfl ?_|refine Bz rfl ?_|refine Lr ?_);conv=>whnf))
      refine ⟨?_, rfl, rfl⟩
      have hr := In_y h
      have := ix_wrap W hq hr
      rw [ix, if_pos ⟨hq, hr⟩, wrapI (n := r * m.w) (by omega), wrapI (by omega)]; rfl

theorem six {d : Int} (h0 : 0 ≤ d) (h5 : d ≤ 5) : d = 0 ∨ d = 1 ∨ d = 2 ∨ d = 3 ∨ d = 4 ∨ d = 5 := by omega

theorem Rw_self {r : Row} {K : Row → Prop} (h : K r) : Rw r K := Rw_i r ⟨rfl, rfl, rfl, fun _ _ _ _ => rfl⟩ h

theorem F_hStep (q r d : Int) (h0 : 0 ≤ d) (h5 : d ≤ 5) (hq : -1000000 ≤ q ∧ q ≤ 1000000) (hr : -1000000 ≤ r ∧ r ≤ 1000000) : Fun E0 39 [.agg [cI q, cI r], vI d] [] (.v (.agg [cI (q + dq d), cI (r + dr d)])) [] [] := by
  rcases six h0 h5 with rfl | rfl | rfl | rfl | rfl | rfl
  all_goals
    refine Fun_of_xc k39 rfl rfl (fun k q h => by cases h) ?_
    ((conv=>whnf);repeat((first|refine Ct ‹_› ?_|refine Cf ‹_› ?_|refine Ct rfl ?_|refine Cf rfl ?_|refine Bi rfl ?_|refine Bz rfl ?_|refine Lr ?_);conv=>whnf))
    refine Rw_self ?_
    ((conv=>whnf);repeat((first|refine Ct ‹_› ?_|refine Cf ‹_› ?_|refine Ct rfl ?_|refine Cf rfl ?_|refine Bi rfl ?_|refine Bz rfl ?_|refine Lr ?_);conv=>whnf))
    refine Bnd_i (by decide) ?_
    ((conv=>whnf);repeat((first|refine Ct ‹_› ?_|refine Cf ‹_› ?_|refine Ct rfl ?_|refine Cf rfl ?_|refine Bi rfl ?_|refine Bz rfl ?_|refine Lr ?_);conv=>whnf))
    refine Rw_self ?_
    ((conv=>whnf);repeat((first|refine Ct ‹_› ?_|refine Cf ‹_› ?_|refine Ct rfl ?_|refine Cf rfl ?_|refine Bi rfl ?_|refine Bz rfl ?_|refine Lr ?_);conv=>whnf))
    refine Bnd_i (by decide) ?_
    ((conv=>whnf);repeat((first|refine Ct ‹_› ?_|refine Cf ‹_› ?_|refine Ct rfl ?_|refine Cf rfl ?_|refine Bi rfl ?_|refine Bz rfl ?_|refine Lr ?_);conv=>whnf))
    refine ⟨?_, rfl, rfl⟩
    rw [wrapI, wrapI] <;> first | rfl | omega

theorem F_stepBy (q r d : Int) (h0 : 0 ≤ d) (h5 : d ≤ 5) (hq : -1000000 ≤ q ∧ q ≤ 1000000) (hr : -1000000 ≤ r ∧ r ≤ 1000000) : Fun E0 52 [.agg [cI q, cI r], vI d, vI 1] [] (.v (.agg [cI (q + dq d), cI (r + dr d)])) [] [] := by
  rcases six h0 h5 with rfl | rfl | rfl | rfl | rfl | rfl
  · refine Fun_of_xc k52 rfl rfl (fun k q h => by cases h) ?_
    ((conv=>whnf);repeat((first|refine Ct ‹_› ?_|refine Cf ‹_› ?_|refine Ct rfl ?_|refine Cf rfl ?_|refine Bi rfl ?_|refine Bz rfl ?_|refine Lr ?_);conv=>whnf))
    refine Bnd_i (by decide) ?_
    ((conv=>whnf);repeat((first|refine Ct ‹_› ?_|refine Cf ‹_› ?_|refine Ct rfl ?_|refine Cf rfl ?_|refine Bi rfl ?_|refine Bz rfl ?_|refine Lr ?_);conv=>whnf))
    refine Bnd_i (by decide) ?_
    ((conv=>whnf);repeat((first|refine Ct ‹_› ?_|refine Cf ‹_› ?_|refine Ct rfl ?_|refine Cf rfl ?_|refine Bi rfl ?_|refine Bz rfl ?_|refine Lr ?_);conv=>whnf))
    refine ⟨?_, rfl, rfl⟩
    show tupOf [.agg [cI (IntKind.i64.wrap (q + (1))), cI (IntKind.i64.wrap (r + (0)))]] = .v (.agg [cI (q + (1)), cI (r + (0))])
    rw [wrapI (by omega), wrapI (by omega)]; rfl
  · refine Fun_of_xc k52 rfl rfl (fun k q h => by cases h) ?_
    ((conv=>whnf);repeat((first|refine Ct ‹_› ?_|refine Cf ‹_› ?_|refine Ct rfl ?_|refine Cf rfl ?_|refine Bi rfl ?_|refine Bz rfl ?_|refine Lr ?_);conv=>whnf))
    refine Bnd_i (by decide) ?_
    ((conv=>whnf);repeat((first|refine Ct ‹_› ?_|refine Cf ‹_› ?_|refine Ct rfl ?_|refine Cf rfl ?_|refine Bi rfl ?_|refine Bz rfl ?_|refine Lr ?_);conv=>whnf))
    refine Bnd_i (by decide) ?_
    ((conv=>whnf);repeat((first|refine Ct ‹_› ?_|refine Cf ‹_› ?_|refine Ct rfl ?_|refine Cf rfl ?_|refine Bi rfl ?_|refine Bz rfl ?_|refine Lr ?_);conv=>whnf))
    refine ⟨?_, rfl, rfl⟩
    show tupOf [.agg [cI (IntKind.i64.wrap (q + (1))), cI (IntKind.i64.wrap (r + (-1)))]] = .v (.agg [cI (q + (1)), cI (r + (-1))])
    rw [wrapI (by omega), wrapI (by omega)]; rfl
  · refine Fun_of_xc k52 rfl rfl (fun k q h => by cases h) ?_
    ((conv=>whnf);repeat((first|refine Ct ‹_› ?_|refine Cf ‹_› ?_|refine Ct rfl ?_|refine Cf rfl ?_|refine Bi rfl ?_|refine Bz rfl ?_|refine Lr ?_);conv=>whnf))
    refine Bnd_i (by decide) ?_
    ((conv=>whnf);repeat((first|refine Ct ‹_› ?_|refine Cf ‹_› ?_|refine Ct rfl ?_|refine Cf rfl ?_|refine Bi rfl ?_|refine Bz rfl ?_|refine Lr ?_);conv=>whnf))
    refine Bnd_i (by decide) ?_
    ((conv=>whnf);repeat((first|refine Ct ‹_› ?_|refine Cf ‹_› ?_|refine Ct rfl ?_|refine Cf rfl ?_|refine Bi rfl ?_|refine Bz rfl ?_|refine Lr ?_);conv=>whnf))
    refine ⟨?_, rfl, rfl⟩
    show tupOf [.agg [cI (IntKind.i64.wrap (q + (0))), cI (IntKind.i64.wrap (r + (-1)))]] = .v (.agg [cI (q + (0)), cI (r + (-1))])
    rw [wrapI (by omega), wrapI (by omega)]; rfl
  · refine Fun_of_xc k52 rfl rfl (fun k q h => by cases h) ?_
    ((conv=>whnf);repeat((first|refine Ct ‹_› ?_|refine Cf ‹_› ?_|refine Ct rfl ?_|refine Cf rfl ?_|refine Bi rfl ?_|refine Bz rfl ?_|refine Lr ?_);conv=>whnf))
    refine Bnd_i (by decide) ?_
    ((conv=>whnf);repeat((first|refine Ct ‹_› ?_|refine Cf ‹_› ?_|refine Ct rfl ?_|refine Cf rfl ?_|refine Bi rfl ?_|refine Bz rfl ?_|refine Lr ?_);conv=>whnf))
    refine Bnd_i (by decide) ?_
    ((conv=>whnf);repeat((first|refine Ct ‹_› ?_|refine Cf ‹_› ?_|refine Ct rfl ?_|refine Cf rfl ?_|refine Bi rfl ?_|refine Bz rfl ?_|refine Lr ?_);conv=>whnf))
    refine ⟨?_, rfl, rfl⟩
    show tupOf [.agg [cI (IntKind.i64.wrap (q + (-1))), cI (IntKind.i64.wrap (r + (0)))]] = .v (.agg [cI (q + (-1)), cI (r + (0))])
    rw [wrapI (by omega), wrapI (by omega)]; rfl
  · refine Fun_of_xc k52 rfl rfl (fun k q h => by cases h) ?_
    ((conv=>whnf);repeat((first|refine Ct ‹_› ?_|refine Cf ‹_› ?_|refine Ct rfl ?_|refine Cf rfl ?_|refine Bi rfl ?_|refine Bz rfl ?_|refine Lr ?_);conv=>whnf))
    refine Bnd_i (by decide) ?_
    ((conv=>whnf);repeat((first|refine Ct ‹_› ?_|refine Cf ‹_› ?_|refine Ct rfl ?_|refine Cf rfl ?_|refine Bi rfl ?_|refine Bz rfl ?_|refine Lr ?_);conv=>whnf))
    refine Bnd_i (by decide) ?_
    ((conv=>whnf);repeat((first|refine Ct ‹_› ?_|refine Cf ‹_› ?_|refine Ct rfl ?_|refine Cf rfl ?_|refine Bi rfl ?_|refine Bz rfl ?_|refine Lr ?_);conv=>whnf))
    refine ⟨?_, rfl, rfl⟩
    show tupOf [.agg [cI (IntKind.i64.wrap (q + (-1))), cI (IntKind.i64.wrap (r + (1)))]] = .v (.agg [cI (q + (-1)), cI (r + (1))])
    rw [wrapI (by omega), wrapI (by omega)]; rfl
  · refine Fun_of_xc k52 rfl rfl (fun k q h => by cases h) ?_
    ((conv=>whnf);repeat((first|refine Ct ‹_› ?_|refine Cf ‹_› ?_|refine Ct rfl ?_|refine Cf rfl ?_|refine Bi rfl ?_|refine Bz rfl ?_|refine Lr ?_);conv=>whnf))
    refine Bnd_i (by decide) ?_
    ((conv=>whnf);repeat((first|refine Ct ‹_› ?_|refine Cf ‹_› ?_|refine Ct rfl ?_|refine Cf rfl ?_|refine Bi rfl ?_|refine Bz rfl ?_|refine Lr ?_);conv=>whnf))
    refine Bnd_i (by decide) ?_
    ((conv=>whnf);repeat((first|refine Ct ‹_› ?_|refine Cf ‹_› ?_|refine Ct rfl ?_|refine Cf rfl ?_|refine Bi rfl ?_|refine Bz rfl ?_|refine Lr ?_);conv=>whnf))
    refine ⟨?_, rfl, rfl⟩
    show tupOf [.agg [cI (IntKind.i64.wrap (q + (0))), cI (IntKind.i64.wrap (r + (1)))]] = .v (.agg [cI (q + (0)), cI (r + (1))])
    rw [wrapI (by omega), wrapI (by omega)]; rfl

theorem F_mNext (m : Map) (h : WH m) (i d : Int) (i0 : 0 ≤ i) (i1 : i ≤ 1000) (h0 : 0 ≤ d) (h5 : d ≤ 5) : Fun E0 14 [.agg m.cs, vI i, vI d] [] (.v (vI (nx m i d))) [] [] := by
  have hb := tdiv_b i0 (by omega) h.w1
  have hw := h.w2
  refine Fun_of_xc k14 rfl rfl (fun k q h => by cases h) ?_
  ((conv=>whnf);repeat((first|refine Ct ‹_› ?_|refine Cf ‹_› ?_|refine Ct rfl ?_|refine Cf rfl ?_|refine Bi rfl ?_|refine Bz rfl ?_|refine Lr ?_);conv=>whnf))
  refine CallQ_some (F_mHex m h i i0 (by omega)) rfl rfl ?_
  ((conv=>whnf);repeat((first|refine Ct ‹_› ?_|refine Cf ‹_› ?_|refine Ct rfl ?_|refine Cf rfl ?_|refine Bi rfl ?_|refine Bz rfl ?_|refine Lr ?_);conv=>whnf))
  refine CallQ_some (F_hStep _ _ d h0 h5 (by omega) (by omega)) rfl rfl ?_
  ((conv=>whnf);repeat((first|refine Ct ‹_› ?_|refine Cf ‹_› ?_|refine Ct rfl ?_|refine Cf rfl ?_|refine Bi rfl ?_|refine Bz rfl ?_|refine Lr ?_);conv=>whnf))
  refine CallQ_some (F_mIndex m h _ _) rfl rfl ?_
  ((conv=>whnf);repeat((first|refine Ct ‹_› ?_|refine Cf ‹_› ?_|refine Ct rfl ?_|refine Cf rfl ?_|refine Bi rfl ?_|refine Bz rfl ?_|refine Lr ?_);conv=>whnf))
  exact ⟨rfl, rfl, rfl⟩

theorem F_nextTo (m : Map) (h : WH m) (i d : Int) (i0 : 0 ≤ i) (i1 : i ≤ 1000) (h0 : 0 ≤ d) (h5 : d ≤ 5) : Fun E0 24 [.agg m.cs, vI i, vI d] [] (.v (vI (nx m i d))) [] [] := by
  have hb := tdiv_b i0 (by omega) h.w1
  have hw := h.w2
  refine Fun_of_xc k24 rfl rfl (fun k q h => by cases h) ?_
  ((conv=>whnf);repeat((first|refine Ct ‹_› ?_|refine Cf ‹_› ?_|refine Ct rfl ?_|refine Cf rfl ?_|refine Bi rfl ?_|refine Bz rfl ?_|refine Lr ?_);conv=>whnf))
  refine CallQ_some (F_hexOf m h i i0 (by omega)) rfl rfl ?_
  ((conv=>whnf);repeat((first|refine Ct ‹_› ?_|refine Cf ‹_› ?_|refine Ct rfl ?_|refine Cf rfl ?_|refine Bi rfl ?_|refine Bz rfl ?_|refine Lr ?_);conv=>whnf))
  refine CallQ_some (F_stepBy _ _ d h0 h5 (by omega) (by omega)) rfl rfl ?_
  ((conv=>whnf);repeat((first|refine Ct ‹_› ?_|refine Cf ‹_› ?_|refine Ct rfl ?_|refine Cf rfl ?_|refine Bi rfl ?_|refine Bz rfl ?_|refine Lr ?_);conv=>whnf))
  refine CallQ_some (F_indexOf m h _ _) rfl rfl ?_
  ((conv=>whnf);repeat((first|refine Ct ‹_› ?_|refine Cf ‹_› ?_|refine Ct rfl ?_|refine Cf rfl ?_|refine Bi rfl ?_|refine Bz rfl ?_|refine Lr ?_);conv=>whnf))
  exact ⟨rfl, rfl, rfl⟩

theorem getD_mem {l : List Int} {i : Int} (h0 : 0 ≤ i) (h1 : i < l.length) : l.getD i.toNat 0 ∈ l := by
  have : i.toNat < l.length := by omega
  simp [this]

theorem all_upto {l : List Int} {p : Int → Bool} : (∀ j : Nat, j < l.length → p (l.getD j 0) = true) → l.all p = true := by
  intro h
  rw [List.all_eq_true]
  intro x hx
  obtain ⟨j, hj⟩ := List.mem_iff_getElem?.1 hx
  have hl : j < l.length := (List.getElem?_eq_some_iff.1 hj).1
  have := h j hl
  simp [hl] at this
  have e : l[j] = x := by simpa [hl] using hj
  rw [e] at this; exact this

theorem all_not {l : List Int} {p : Int → Bool} {i : Int} (h0 : 0 ≤ i) (h1 : i < l.length) (h : p (l.getD i.toNat 0) = false) : l.all p = false := by
  rw [List.all_eq_false]
  exact ⟨_, getD_mem h0 h1, by rw [h]; simp⟩

theorem F_l1All (l : List Int) (lo hi : Int) (hl : l.length ≤ maxLen) : Fun E0 75 [.one (roI l), vI lo, vI hi] [] (.v (vB (l.all fun a => In a lo hi))) [] [] := by
  have hl : l.length ≤ 9223372036854775807 := hl
  refine Fun_of_xc k75 rfl rfl (fun k q h => by cases h) ?_
  ((conv=>whnf);repeat((first|refine Ct ‹_› ?_|refine Cf ‹_› ?_|refine Ct rfl ?_|refine Cf rfl ?_|refine Bi rfl ?_|refine Bz rfl ?_|refine Lr ?_);conv=>whnf))
  refine WLoop_v ⟨[1, 2, 9, 10, 11], [], []⟩ (fun i : Int => hdS 21 [(1, .v (vI lo)), (2, .v (vI hi)), (9, .v (.one (roI l))), (10, .v (vI l.length)), (11, .v (vI i))] [] [])
    (fun k i => 0 ≤ i ∧ i + k = l.length ∧ ∀ j : Nat, (j : Int) < i → In (l.getD j 0) lo hi = true) l.length 0 rfl ⟨by omega, by omega, fun j hj => by omega⟩ ?_
  rintro k i ⟨h1, h2, h3⟩
  ((conv=>whnf);repeat((first|refine Ct ‹_› ?_|refine Cf ‹_› ?_|refine Ct rfl ?_|refine Cf rfl ?_|refine Bi rfl ?_|refine Bz rfl ?_|refine Lr ?_);conv=>whnf))
  refine Cnd_i (fun h => ?_) (fun h => ?_)
  · have hi' : i < l.length := of_decide_eq_true h
    ((conv=>whnf);repeat((first|refine Ct ‹_› ?_|refine Cf ‹_› ?_|refine Ct rfl ?_|refine Cf rfl ?_|refine Bi rfl ?_|refine Bz rfl ?_|refine Lr ?_);conv=>whnf))
    refine Bnd_i ⟨h1, hi'⟩ ?_
    ((conv=>whnf);repeat((first|refine Ct ‹_› ?_|refine Cf ‹_› ?_|refine Ct rfl ?_|refine Cf rfl ?_|refine Bi rfl ?_|refine Bz rfl ?_|refine Lr ?_);conv=>whnf))
    refine CallQ_some (F_l1In _ _ _) rfl rfl ?_
    ((conv=>whnf);repeat((first|refine Ct ‹_› ?_|refine Cf ‹_› ?_|refine Ct rfl ?_|refine Cf rfl ?_|refine Bi rfl ?_|refine Bz rfl ?_|refine Lr ?_);conv=>whnf))
    refine Cnd_i (fun g => ?_) (fun g => ?_)
    · ((conv=>whnf);repeat((first|refine Ct ‹_› ?_|refine Cf ‹_› ?_|refine Ct rfl ?_|refine Cf rfl ?_|refine Bi rfl ?_|refine Bz rfl ?_|refine Lr ?_);conv=>whnf))
      refine ⟨?_, rfl, rfl⟩
      rw [all_not h1 hi' (by simpa using g)]; rfl
    · ((conv=>whnf);repeat((first|refine Ct ‹_› ?_|refine Cf ‹_› ?_|refine Ct rfl ?_|refine Cf rfl ?_|refine Bi rfl ?_|refine Bz rfl ?_|refine Lr ?_);conv=>whnf))
      refine ⟨k - 1, _, rfl, ?_, ?_, ?_, ?_⟩
      · omega
      · rw [wrapI (by omega)]; omega
      · rw [wrapI (by omega)]; omega
      · rw [wrapI (by omega)]
        intro j hj
        by_cases e : (j : Int) < i
        · exact h3 j e
        · have e : j = i.toNat := by omega
          subst e
          simpa using g
  · have hi' := of_decide_eq_false h
    ((conv=>whnf);repeat((first|refine Ct ‹_› ?_|refine Cf ‹_› ?_|refine Ct rfl ?_|refine Cf rfl ?_|refine Bi rfl ?_|refine Bz rfl ?_|refine Lr ?_);conv=>whnf))
    refine ⟨?_, rfl, rfl⟩
    rw [all_upto (fun j hj => h3 j (by omega))]; rfl

theorem has_not {l : List Int} {x : Int} (h : ∀ j : Nat, j < l.length → l.getD j 0 ≠ x) : l.contains x = false := by
  rw [Bool.eq_false_iff]
  intro hc
  rw [List.contains_iff_mem] at hc
  obtain ⟨j, hj⟩ := List.mem_iff_getElem?.1 hc
  have hl : j < l.length := (List.getElem?_eq_some_iff.1 hj).1
  have := h j hl
  simp [hl] at this
  exact this (by simpa [hl] using hj)

theorem has_at {l : List Int} {x i : Int} (h0 : 0 ≤ i) (h1 : i < l.length) (h : l.getD i.toNat 0 = x) : l.contains x = true := by
  rw [List.contains_iff_mem, ← h]; exact getD_mem h0 h1

theorem F_l1Has (l : List Int) (x : Int) (hl : l.length ≤ maxLen) : Fun E0 33 [.one (roI l), vI x] [] (.v (vB (l.contains x))) [] [] := by
  have hl : l.length ≤ 9223372036854775807 := hl
  refine Fun_of_xc k33 rfl rfl (fun k q h => by cases h) ?_
  ((conv=>whnf);repeat((first|refine Ct ‹_› ?_|refine Cf ‹_› ?_|refine Ct rfl ?_|refine Cf rfl ?_|refine Bi rfl ?_|refine Bz rfl ?_|refine Lr ?_);conv=>whnf))
  refine WLoop_v ⟨[1, 7, 8, 9], [], []⟩ (fun i : Int => hdS 17 [(1, .v (vI x)), (7, .v (.one (roI l))), (8, .v (vI l.length)), (9, .v (vI i))] [] [])
    (fun k i => 0 ≤ i ∧ i + k = l.length ∧ ∀ j : Nat, (j : Int) < i → l.getD j 0 ≠ x) l.length 0 rfl ⟨by omega, by omega, fun j hj => by omega⟩ ?_
  rintro k i ⟨h1, h2, h3⟩
  ((conv=>whnf);repeat((first|refine Ct ‹_› ?_|refine Cf ‹_› ?_|refine Ct rfl ?_|refine Cf rfl ?_|refine Bi rfl ?_|refine Bz rfl ?_|refine Lr ?_);conv=>whnf))
  refine Cnd_i (fun h => ?_) (fun h => ?_)
  · have hi' : i < l.length := of_decide_eq_true h
    ((conv=>whnf);repeat((first|refine Ct ‹_› ?_|refine Cf ‹_› ?_|refine Ct rfl ?_|refine Cf rfl ?_|refine Bi rfl ?_|refine Bz rfl ?_|refine Lr ?_);conv=>whnf))
    refine Bnd_i ⟨h1, hi'⟩ ?_
    ((conv=>whnf);repeat((first|refine Ct ‹_› ?_|refine Cf ‹_› ?_|refine Ct rfl ?_|refine Cf rfl ?_|refine Bi rfl ?_|refine Bz rfl ?_|refine Lr ?_);conv=>whnf))
    refine Cnd_i (fun g => ?_) (fun g => ?_)
    · ((conv=>whnf);repeat((first|refine Ct ‹_› ?_|refine Cf ‹_› ?_|refine Ct rfl ?_|refine Cf rfl ?_|refine Bi rfl ?_|refine Bz rfl ?_|refine Lr ?_);conv=>whnf))
      refine ⟨?_, rfl, rfl⟩
      rw [has_at h1 hi' (by simpa using g)]; rfl
    · ((conv=>whnf);repeat((first|refine Ct ‹_› ?_|refine Cf ‹_› ?_|refine Ct rfl ?_|refine Cf rfl ?_|refine Bi rfl ?_|refine Bz rfl ?_|refine Lr ?_);conv=>whnf))
      refine ⟨k - 1, _, rfl, ?_, ?_, ?_, ?_⟩
      · omega
      · rw [wrapI (by omega)]; omega
      · rw [wrapI (by omega)]; omega
      · rw [wrapI (by omega)]
        intro j hj
        by_cases e : (j : Int) < i
        · exact h3 j e
        · have e : j = i.toNat := by omega
          subst e
          simpa using g
  · have hi' := of_decide_eq_false h
    ((conv=>whnf);repeat((first|refine Ct ‹_› ?_|refine Cf ‹_› ?_|refine Ct rfl ?_|refine Cf rfl ?_|refine Bi rfl ?_|refine Bz rfl ?_|refine Lr ?_);conv=>whnf))
    refine ⟨?_, rfl, rfl⟩
    rw [has_not (fun j hj => h3 j (by omega))]; rfl

theorem F_Index (l : List Int) (x : Int) (hl : l.length ≤ maxLen) : ∃ r : Int, Fun E0 67 [.one (roI l), vI x] [] (.v (vI r)) [] [] ∧ (decide (r ≥ 0) = l.contains x) := by
  have hl : l.length ≤ 9223372036854775807 := hl
  by_cases hx : l.contains x = true
  · obtain ⟨i0, hi0, he, hlt⟩ : ∃ i0 : Nat, i0 < l.length ∧ l.getD i0 0 = x ∧ ∀ j : Nat, j < i0 → l.getD j 0 ≠ x := by
      rw [List.contains_iff_mem] at hx
      obtain ⟨j, hj⟩ := List.mem_iff_getElem?.1 hx
      have hj' : j < l.length ∧ l.getD j 0 = x := by
        have hl : j < l.length := (List.getElem?_eq_some_iff.1 hj).1
        exact ⟨hl, by simp [hl]; simpa [hl] using hj⟩
      obtain ⟨k, hk1, hk2⟩ := least_nat (p := fun j => j < l.length ∧ l.getD j 0 = x) hj'
      exact ⟨k, hk1.1, hk1.2, fun j hj e => by have := hk2 j ⟨by omega, e⟩; omega⟩
    refine ⟨i0, ?_, by rw [hx]; simp⟩
    refine Fun_of_xc k67 rfl rfl (fun k q h => by cases h) ?_
    ((conv=>whnf);repeat((first|refine Ct ‹_› ?_|refine Cf ‹_› ?_|refine Ct rfl ?_|refine Cf rfl ?_|refine Bi rfl ?_|refine Bz rfl ?_|refine Lr ?_);conv=>whnf))
    refine WLoop_v ⟨[0, 1, 7, 8], [], []⟩ (fun i : Int => hdS 19 [(0, .v (.one (roI l))), (1, .v (vI x)), (7, .v (vI l.length)), (8, .v (vI i))] [] [])
      (fun k i => 0 ≤ i ∧ i + k = l.length ∧ i ≤ i0) l.length 0 rfl ⟨by omega, by omega, by omega⟩ ?_
    rintro k i ⟨h1, h2, h3⟩
    ((conv=>whnf);repeat((first|refine Ct ‹_› ?_|refine Cf ‹_› ?_|refine Ct rfl ?_|refine Cf rfl ?_|refine Bi rfl ?_|refine Bz rfl ?_|refine Lr ?_);conv=>whnf))
    refine Cnd_i (fun h => ?_) (fun h => ?_)
    · have hi' : i < l.length := of_decide_eq_true h
      ((conv=>whnf);repeat((first|refine Ct ‹_› ?_|refine Cf ‹_› ?_|refine Ct rfl ?_|refine Cf rfl ?_|refine Bi rfl ?_|refine Bz rfl ?_|refine Lr ?_);conv=>whnf))
      refine Bnd_i ⟨h1, hi'⟩ ?_
      ((conv=>whnf);repeat((first|refine Ct ‹_› ?_|refine Cf ‹_› ?_|refine Ct rfl ?_|refine Cf rfl ?_|refine Bi rfl ?_|refine Bz rfl ?_|refine Lr ?_);conv=>whnf))
      refine Cnd_i (fun g => ?_) (fun g => ?_)
      · ((conv=>whnf);repeat((first|refine Ct ‹_› ?_|refine Cf ‹_› ?_|refine Ct rfl ?_|refine Cf rfl ?_|refine Bi rfl ?_|refine Bz rfl ?_|refine Lr ?_);conv=>whnf))
        refine ⟨?_, rfl, rfl⟩
        have g : x = l.getD i.toNat 0 := by simpa using g
        have : ¬ i.toNat < i0 := fun hh => hlt _ hh g.symm
        rw [show i = (i0 : Int) by omega]; rfl
      · ((conv=>whnf);repeat((first|refine Ct ‹_› ?_|refine Cf ‹_› ?_|refine Ct rfl ?_|refine Cf rfl ?_|refine Bi rfl ?_|refine Bz rfl ?_|refine Lr ?_);conv=>whnf))
        have g : x ≠ l.getD i.toNat 0 := by simpa using g
        refine ⟨k - 1, _, rfl, ?_, ?_, ?_, ?_⟩
        · omega
        · rw [wrapI (by omega)]; omega
        · rw [wrapI (by omega)]; omega
        · rw [wrapI (by omega)]
          have : i.toNat ≠ i0 := fun e => g (by rw [e]; exact he.symm)
          omega
    · have hi' := of_decide_eq_false h
      omega
  · have hx : l.contains x = false := by simpa using hx
    refine ⟨-1, ?_, by rw [hx]; decide⟩
    have hno : ∀ j : Nat, j < l.length → l.getD j 0 ≠ x := by
      intro j hj e
      have := has_at (l := l) (x := x) (i := j) (by omega) (by omega) (by simpa using e)
      rw [hx] at this; cases this
    refine Fun_of_xc k67 rfl rfl (fun k q h => by cases h) ?_
    ((conv=>whnf);repeat((first|refine Ct ‹_› ?_|refine Cf ‹_› ?_|refine Ct rfl ?_|refine Cf rfl ?_|refine Bi rfl ?_|refine Bz rfl ?_|refine Lr ?_);conv=>whnf))
    refine WLoop_v ⟨[0, 1, 7, 8], [], []⟩ (fun i : Int => hdS 19 [(0, .v (.one (roI l))), (1, .v (vI x)), (7, .v (vI l.length)), (8, .v (vI i))] [] [])
      (fun k i => 0 ≤ i ∧ i + k = l.length) l.length 0 rfl ⟨by omega, by omega⟩ ?_
    rintro k i ⟨h1, h2⟩
    ((conv=>whnf);repeat((first|refine Ct ‹_› ?_|refine Cf ‹_› ?_|refine Ct rfl ?_|refine Cf rfl ?_|refine Bi rfl ?_|refine Bz rfl ?_|refine Lr ?_);conv=>whnf))
    refine Cnd_i (fun h => ?_) (fun h => ?_)
    · have hi' : i < l.length := of_decide_eq_true h
      ((conv=>whnf);repeat((first|refine Ct ‹_› ?_|refine Cf ‹_› ?_|refine Ct rfl ?_|refine Cf rfl ?_|refine Bi rfl ?_|refine Bz rfl ?_|refine Lr ?_);conv=>whnf))
      refine Bnd_i ⟨h1, hi'⟩ ?_
      ((conv=>whnf);repeat((first|refine Ct ‹_› ?_|refine Cf ‹_› ?_|refine Ct rfl ?_|refine Cf rfl ?_|refine Bi rfl ?_|refine Bz rfl ?_|refine Lr ?_);conv=>whnf))
      refine Cnd_i (fun g => ?_) (fun g => ?_)
      · have g : x = l.getD i.toNat 0 := by simpa using g
        exact absurd g.symm (hno _ (by omega))
      · ((conv=>whnf);repeat((first|refine Ct ‹_› ?_|refine Cf ‹_› ?_|refine Ct rfl ?_|refine Cf rfl ?_|refine Bi rfl ?_|refine Bz rfl ?_|refine Lr ?_);conv=>whnf))
        refine ⟨k - 1, _, rfl, ?_, ?_, ?_⟩
        · omega
        · rw [wrapI (by omega)]; omega
        · rw [wrapI (by omega)]; omega
    · ((conv=>whnf);repeat((first|refine Ct ‹_› ?_|refine Cf ‹_› ?_|refine Ct rfl ?_|refine Cf rfl ?_|refine Bi rfl ?_|refine Bz rfl ?_|refine Lr ?_);conv=>whnf))
      exact ⟨rfl, rfl, rfl⟩

theorem F_Contains (l : List Int) (x : Int) (hl : l.length ≤ maxLen) : Fun E0 46 [.one (roI l), vI x] [] (.v (vB (l.contains x))) [] [] := by
  obtain ⟨r, hF, hr⟩ := F_Index l x hl
  refine Fun_of_xc k46 rfl rfl (fun k q h => by cases h) ?_
  ((conv=>whnf);repeat((first|refine Ct ‹_› ?_|refine Cf ‹_› ?_|refine Ct rfl ?_|refine Cf rfl ?_|refine Bi rfl ?_|refine Bz rfl ?_|refine Lr ?_);conv=>whnf))
  refine CallQ_some hF rfl rfl ?_
  ((conv=>whnf);repeat((first|refine Ct ‹_› ?_|refine Cf ‹_› ?_|refine Ct rfl ?_|refine Cf rfl ?_|refine Bi rfl ?_|refine Bz rfl ?_|refine Lr ?_);conv=>whnf))
  refine ⟨?_, rfl, rfl⟩
  rw [← hr]; rfl

def rising (l : List Int) : Bool := decide (∀ i : Nat, i < l.length → 0 < i → l.getD (i - 1) 0 < l.getD i 0)

theorem F_increasing (l : List Int) (hl : l.length ≤ maxLen) : Fun E0 92 [.one (roI l)] [] (.v (vB (rising l))) [] [] := by
  have hl : l.length ≤ 9223372036854775807 := hl
  refine Fun_of_xc k92 rfl rfl (fun k q h => by cases h) ?_
  ((conv=>whnf);repeat((first|refine Ct ‹_› ?_|refine Cf ‹_› ?_|refine Ct rfl ?_|refine Cf rfl ?_|refine Bi rfl ?_|refine Bz rfl ?_|refine Lr ?_);conv=>whnf))
  refine WLoop_v ⟨[0, 3], [], []⟩ (fun i : Int => hdS 20 [(0, .v (.one (roI l))), (3, .v (vI i))] [] [])
    (fun k i => 1 ≤ i ∧ i + k = l.length + 1 ∧ ∀ j : Nat, (j : Int) < i → 0 < j → l.getD (j - 1) 0 < l.getD j 0) l.length 1 rfl ⟨by omega, by omega, fun j hj h0 => by omega⟩ ?_
  rintro k i ⟨h1, h2, h3⟩
  ((conv=>whnf);repeat((first|refine Ct ‹_› ?_|refine Cf ‹_› ?_|refine Ct rfl ?_|refine Cf rfl ?_|refine Bi rfl ?_|refine Bz rfl ?_|refine Lr ?_);conv=>whnf))
  refine Cnd_i (fun h => ?_) (fun h => ?_)
  · have hi' : i < l.length := of_decide_eq_true h
    ((conv=>whnf);repeat((first|refine Ct ‹_› ?_|refine Cf ‹_› ?_|refine Ct rfl ?_|refine Cf rfl ?_|refine Bi rfl ?_|refine Bz rfl ?_|refine Lr ?_);conv=>whnf))
    refine Bnd_i (by rw [wrapI (by omega)]; omega) ?_
    ((conv=>whnf);repeat((first|refine Ct ‹_› ?_|refine Cf ‹_› ?_|refine Ct rfl ?_|refine Cf rfl ?_|refine Bi rfl ?_|refine Bz rfl ?_|refine Lr ?_);conv=>whnf))
    refine Bnd_i ⟨by omega, hi'⟩ ?_
    ((conv=>whnf);repeat((first|refine Ct ‹_› ?_|refine Cf ‹_› ?_|refine Ct rfl ?_|refine Cf rfl ?_|refine Bi rfl ?_|refine Bz rfl ?_|refine Lr ?_);conv=>whnf))
    rw [wrapI (n := i - 1) (by omega)]
    refine Cnd_i (fun g => ?_) (fun g => ?_)
    · ((conv=>whnf);repeat((first|refine Ct ‹_› ?_|refine Cf ‹_› ?_|refine Ct rfl ?_|refine Cf rfl ?_|refine Bi rfl ?_|refine Bz rfl ?_|refine Lr ?_);conv=>whnf))
      refine ⟨?_, rfl, rfl⟩
      have g : l.getD (i - 1).toNat 0 ≥ l.getD i.toNat 0 := of_decide_eq_true g
      have : rising l = false := by
        unfold rising
        simp only [decide_eq_false_iff_not]
        intro hh
        have := hh i.toNat (by omega) (by omega)
        rw [show i.toNat - 1 = (i - 1).toNat by omega] at this
        omega
      rw [this]; rfl
    · have g : ¬ l.getD (i - 1).toNat 0 ≥ l.getD i.toNat 0 := of_decide_eq_false g
      ((conv=>whnf);repeat((first|refine Ct ‹_› ?_|refine Cf ‹_› ?_|refine Ct rfl ?_|refine Cf rfl ?_|refine Bi rfl ?_|refine Bz rfl ?_|refine Lr ?_);conv=>whnf))
      refine ⟨k - 1, _, rfl, ?_, ?_, ?_, ?_⟩
      · omega
      · rw [wrapI (by omega)]; omega
      · rw [wrapI (by omega)]; omega
      · rw [wrapI (by omega)]
        intro j hj h0
        by_cases e : (j : Int) < i
        · exact h3 j e h0
        · have e : j = i.toNat := by omega
          subst e
          rw [show i.toNat - 1 = (i - 1).toNat by omega]; omega
  · have hi' := of_decide_eq_false h
    ((conv=>whnf);repeat((first|refine Ct ‹_› ?_|refine Cf ‹_› ?_|refine Ct rfl ?_|refine Cf rfl ?_|refine Bi rfl ?_|refine Bz rfl ?_|refine Lr ?_);conv=>whnf))
    refine ⟨?_, rfl, rfl⟩
    have : rising l = true := by
      unfold rising
      simp only [decide_eq_true_eq]
      exact fun j hj h0 => h3 j (by omega) h0
    rw [this]; rfl

theorem F_l1Rising (l : List Int) (lo hi : Int) (hl : l.length ≤ maxLen) : Fun E0 87 [.one (roI l), vI lo, vI hi] [] (.v (vB ((l.all fun a => In a lo hi) && rising l))) [] [] := by
  have hl : l.length ≤ 9223372036854775807 := hl
  refine Fun_of_xc k87 rfl rfl (fun k q h => by cases h) ?_
  ((conv=>whnf);repeat((first|refine Ct ‹_› ?_|refine Cf ‹_› ?_|refine Ct rfl ?_|refine Cf rfl ?_|refine Bi rfl ?_|refine Bz rfl ?_|refine Lr ?_);conv=>whnf))
  refine WLoop_v ⟨[0, 1, 2, 9, 10, 11], [], []⟩ (fun i : Int => hdS 35 [(0, .v (.one (roI l))), (1, .v (vI lo)), (2, .v (vI hi)), (9, .v (.one (roI l))), (10, .v (vI l.length)), (11, .v (vI i))] [] [])
    (fun k i => 0 ≤ i ∧ i + k = l.length ∧ (∀ j : Nat, (j : Int) < i → In (l.getD j 0) lo hi = true) ∧ ∀ j : Nat, (j : Int) < i → 0 < j → l.getD (j - 1) 0 < l.getD j 0) l.length 0 rfl ⟨by omega, by omega, fun j hj => by omega, fun j hj h0 => by omega⟩ ?_
  rintro k i ⟨h1, h2, h3, h4⟩
  ((conv=>whnf);repeat((first|refine Ct ‹_› ?_|refine Cf ‹_› ?_|refine Ct rfl ?_|refine Cf rfl ?_|refine Bi rfl ?_|refine Bz rfl ?_|refine Lr ?_);conv=>whnf))
  refine Cnd_i (fun h => ?_) (fun h => ?_)
  · have hi' : i < l.length := of_decide_eq_true h
    have last : ∀ (g : In (l.getD i.toNat 0) lo hi = true) (g2 : i = 0 ∨ l.getD (i - 1).toNat 0 < l.getD i.toNat 0), (∀ j : Nat, (j : Int) < i + 1 → In (l.getD j 0) lo hi = true) ∧ ∀ j : Nat, (j : Int) < i + 1 → 0 < j → l.getD (j - 1) 0 < l.getD j 0 := by
      intro g g2
      refine ⟨fun j hj => ?_, fun j hj h0 => ?_⟩
      · by_cases e : (j : Int) < i
        · exact h3 j e
        · have e : j = i.toNat := by omega
          subst e; exact g
      · by_cases e : (j : Int) < i
        · exact h4 j e h0
        · have e : j = i.toNat := by omega
          subst e
          rw [show i.toNat - 1 = (i - 1).toNat by omega]
          rcases g2 with g2 | g2
          · omega
          · exact g2
    ((conv=>whnf);repeat((first|refine Ct ‹_› ?_|refine Cf ‹_› ?_|refine Ct rfl ?_|refine Cf rfl ?_|refine Bi rfl ?_|refine Bz rfl ?_|refine Lr ?_);conv=>whnf))
    refine Bnd_i ⟨h1, hi'⟩ ?_
    ((conv=>whnf);repeat((first|refine Ct ‹_› ?_|refine Cf ‹_› ?_|refine Ct rfl ?_|refine Cf rfl ?_|refine Bi rfl ?_|refine Bz rfl ?_|refine Lr ?_);conv=>whnf))
    refine CallQ_some (F_l1In _ _ _) rfl rfl ?_
    ((conv=>whnf);repeat((first|refine Ct ‹_› ?_|refine Cf ‹_› ?_|refine Ct rfl ?_|refine Cf rfl ?_|refine Bi rfl ?_|refine Bz rfl ?_|refine Lr ?_);conv=>whnf))
    refine Cnd_i (fun g => ?_) (fun g => ?_)
    · ((conv=>whnf);repeat((first|refine Ct ‹_› ?_|refine Cf ‹_› ?_|refine Ct rfl ?_|refine Cf rfl ?_|refine Bi rfl ?_|refine Bz rfl ?_|refine Lr ?_);conv=>whnf))
      refine ⟨?_, rfl, rfl⟩
      rw [all_not h1 hi' (by simpa using g)]; rfl
    · have g : In (l.getD i.toNat 0) lo hi = true := by simpa using g
      ((conv=>whnf);repeat((first|refine Ct ‹_› ?_|refine Cf ‹_› ?_|refine Ct rfl ?_|refine Cf rfl ?_|refine Bi rfl ?_|refine Bz rfl ?_|refine Lr ?_);conv=>whnf))
      refine Cnd_i (fun g2 => ?_) (fun g2 => ?_)
      · have g2 : 0 < i := of_decide_eq_true g2
        ((conv=>whnf);repeat((first|refine Ct ‹_› ?_|refine Cf ‹_› ?_|refine Ct rfl ?_|refine Cf rfl ?_|refine Bi rfl ?_|refine Bz rfl ?_|refine Lr ?_);conv=>whnf))
        refine Bnd_i (by rw [wrapI (by omega)]; omega) ?_
        ((conv=>whnf);repeat((first|refine Ct ‹_› ?_|refine Cf ‹_› ?_|refine Ct rfl ?_|refine Cf rfl ?_|refine Bi rfl ?_|refine Bz rfl ?_|refine Lr ?_);conv=>whnf))
        rw [wrapI (n := i - 1) (by omega)]
        refine Cnd_i (fun g3 => ?_) (fun g3 => ?_)
        · ((conv=>whnf);repeat((first|refine Ct ‹_› ?_|refine Cf ‹_› ?_|refine Ct rfl ?_|refine Cf rfl ?_|refine Bi rfl ?_|refine Bz rfl ?_|refine Lr ?_);conv=>whnf))
          refine ⟨?_, rfl, rfl⟩
          have g3 : l.getD (i - 1).toNat 0 ≥ l.getD i.toNat 0 := of_decide_eq_true g3
          have : rising l = false := by
            unfold rising
            simp only [decide_eq_false_iff_not]
            intro hh
            have := hh i.toNat (by omega) (by omega)
            rw [show i.toNat - 1 = (i - 1).toNat by omega] at this
            omega
          rw [this, Bool.and_false]; rfl
        · have g3 : ¬ l.getD (i - 1).toNat 0 ≥ l.getD i.toNat 0 := of_decide_eq_false g3
          ((conv=>whnf);repeat((first|refine Ct ‹_› ?_|refine Cf ‹_› ?_|refine Ct rfl ?_|refine Cf rfl ?_|refine Bi rfl ?_|refine Bz rfl ?_|refine Lr ?_);conv=>whnf))
          have := last g (.inr (by omega))
          refine ⟨k - 1, _, rfl, ?_, ?_, ?_, ?_, ?_⟩
          · omega
          · rw [wrapI (by omega)]; omega
          · rw [wrapI (by omega)]; omega
          · rw [wrapI (by omega)]; exact this.1
          · rw [wrapI (by omega)]; exact this.2
      · have g2 : ¬ 0 < i := of_decide_eq_false g2
        ((conv=>whnf);repeat((first|refine Ct ‹_› ?_|refine Cf ‹_› ?_|refine Ct rfl ?_|refine Cf rfl ?_|refine Bi rfl ?_|refine Bz rfl ?_|refine Lr ?_);conv=>whnf))
        have := last g (.inl (by omega))
        refine ⟨k - 1, _, rfl, ?_, ?_, ?_, ?_, ?_⟩
        · omega
        · rw [wrapI (by omega)]; omega
        · rw [wrapI (by omega)]; omega
        · rw [wrapI (by omega)]; exact this.1
        · rw [wrapI (by omega)]; exact this.2
  · have hi' := of_decide_eq_false h
    ((conv=>whnf);repeat((first|refine Ct ‹_› ?_|refine Cf ‹_› ?_|refine Ct rfl ?_|refine Cf rfl ?_|refine Bi rfl ?_|refine Bz rfl ?_|refine Lr ?_);conv=>whnf))
    refine ⟨?_, rfl, rfl⟩
    have : rising l = true := by
      unfold rising
      simp only [decide_eq_true_eq]
      exact fun j hj h0 => h4 j (by omega) h0
    rw [this, all_upto (fun j hj => h3 j (by omega))]; rfl

def okName (s : ByteArray) : Bool := decide (∀ i : Nat, i < s.size → 97 ≤ bt s i ∧ bt s i ≤ 122) && decide (1 ≤ (s.size : Int) ∧ (s.size : Int) ≤ 8)

theorem okName_no {s : ByteArray} {i : Int} (h0 : 0 ≤ i) (h1 : i < s.size) (h : ¬ (97 ≤ bt s i ∧ bt s i ≤ 122)) : okName s = false := by
  unfold okName
  rw [Bool.and_eq_false_iff]; left
  simp only [decide_eq_false_iff_not]
  intro hh
  have := hh i.toNat (by omega)
  rw [show ((i.toNat : Nat) : Int) = i by omega] at this
  exact h this

theorem okName_all {s : ByteArray} (h : ∀ j : Nat, j < s.size → 97 ≤ bt s j ∧ bt s j ≤ 122) : okName s = In s.size 1 8 := by
  unfold okName
  have : decide (∀ i : Nat, i < s.size → 97 ≤ bt s i ∧ bt s i ≤ 122) = true := by
    simp only [decide_eq_true_eq]
    exact h
  rw [this]; rfl

theorem F_rName (s : ByteArray) (hs : s.size ≤ maxLen) : Fun E0 78 [vS s] [] (.v (vB (okName s))) [] [] := by
  have hs : s.size ≤ 9223372036854775807 := hs
  refine Fun_of_xc k78 rfl rfl (fun k q h => by cases h) ?_
  ((conv=>whnf);repeat((first|refine Ct ‹_› ?_|refine Cf ‹_› ?_|refine Ct rfl ?_|refine Cf rfl ?_|refine Bi rfl ?_|refine Bz rfl ?_|refine Lr ?_);conv=>whnf))
  refine WLoop_v ⟨[0, 3], [], []⟩ (fun i : Int => hdS 23 [(0, .v (vS s)), (3, .v (vI i))] [] []) (fun k i => 0 ≤ i ∧ i + k = s.size ∧ ∀ j : Nat, (j : Int) < i → 97 ≤ bt s j ∧ bt s j ≤ 122) s.size 0 rfl ⟨by omega, by omega, fun j hj => by omega⟩ ?_
  rintro k i ⟨h1, h2, h3⟩
  ((conv=>whnf);repeat((first|refine Ct ‹_› ?_|refine Cf ‹_› ?_|refine Ct rfl ?_|refine Cf rfl ?_|refine Bi rfl ?_|refine Bz rfl ?_|refine Lr ?_);conv=>whnf))
  refine Cnd_i (fun h => ?_) (fun h => ?_)
  · have hi : i < s.size := of_decide_eq_true h
    ((conv=>whnf);repeat((first|refine Ct ‹_› ?_|refine Cf ‹_› ?_|refine Ct rfl ?_|refine Cf rfl ?_|refine Bi rfl ?_|refine Bz rfl ?_|refine Lr ?_);conv=>whnf))
    refine Bnd_i ⟨h1, hi⟩ ?_
    ((conv=>whnf);repeat((first|refine Ct ‹_› ?_|refine Cf ‹_› ?_|refine Ct rfl ?_|refine Cf rfl ?_|refine Bi rfl ?_|refine Bz rfl ?_|refine Lr ?_);conv=>whnf))
    refine Cnd_i (fun g => ?_) (fun g => ?_)
    · have g' := of_decide_eq_true g
      ((conv=>whnf);repeat((first|refine Ct ‹_› ?_|refine Cf ‹_› ?_|refine Ct rfl ?_|refine Cf rfl ?_|refine Bi rfl ?_|refine Bz rfl ?_|refine Lr ?_);conv=>whnf))
      refine ⟨?_, rfl, rfl⟩
      rw [okName_no h1 hi (by omega)]; rfl
    · have g' := of_decide_eq_false g
      ((conv=>whnf);repeat((first|refine Ct ‹_› ?_|refine Cf ‹_› ?_|refine Ct rfl ?_|refine Cf rfl ?_|refine Bi rfl ?_|refine Bz rfl ?_|refine Lr ?_);conv=>whnf))
      refine Bnd_i ⟨h1, hi⟩ ?_
      ((conv=>whnf);repeat((first|refine Ct ‹_› ?_|refine Cf ‹_› ?_|refine Ct rfl ?_|refine Cf rfl ?_|refine Bi rfl ?_|refine Bz rfl ?_|refine Lr ?_);conv=>whnf))
      refine Cnd_i (fun g2 => ?_) (fun g2 => ?_)
      · have g2' := of_decide_eq_true g2
        ((conv=>whnf);repeat((first|refine Ct ‹_› ?_|refine Cf ‹_› ?_|refine Ct rfl ?_|refine Cf rfl ?_|refine Bi rfl ?_|refine Bz rfl ?_|refine Lr ?_);conv=>whnf))
        refine ⟨?_, rfl, rfl⟩
        rw [okName_no h1 hi (by omega)]; rfl
      · have g2' := of_decide_eq_false g2
        ((conv=>whnf);repeat((first|refine Ct ‹_› ?_|refine Cf ‹_› ?_|refine Ct rfl ?_|refine Cf rfl ?_|refine Bi rfl ?_|refine Bz rfl ?_|refine Lr ?_);conv=>whnf))
        refine ⟨k - 1, _, rfl, ?_, ?_, ?_, ?_⟩
        · omega
        · rw [wrapI (by omega)]; omega
        · rw [wrapI (by omega)]; omega
        · rw [wrapI (by omega)]
          intro j hj
          by_cases e : (j : Int) < i
          · exact h3 j e
          · rw [show (j : Int) = i by omega]; omega
  · have hi := of_decide_eq_false h
    ((conv=>whnf);repeat((first|refine Ct ‹_› ?_|refine Cf ‹_› ?_|refine Ct rfl ?_|refine Cf rfl ?_|refine Bi rfl ?_|refine Bz rfl ?_|refine Lr ?_);conv=>whnf))
    refine CallQ_some (F_l1In _ _ _) rfl rfl ?_
    ((conv=>whnf);repeat((first|refine Ct ‹_› ?_|refine Cf ‹_› ?_|refine Ct rfl ?_|refine Cf rfl ?_|refine Bi rfl ?_|refine Bz rfl ?_|refine Lr ?_);conv=>whnf))
    refine ⟨?_, rfl, rfl⟩
    rw [okName_all (fun j hj => h3 j (by omega))]; rfl

theorem F_isName (s : ByteArray) (hs : s.size ≤ maxLen) : Fun E0 95 [vS s] [] (.v (vB (okName s))) [] [] := by
  have hs : s.size ≤ 9223372036854775807 := hs
  refine Fun_of_xc k95 rfl rfl (fun k q h => by cases h) ?_
  ((conv=>whnf);repeat((first|refine Ct ‹_› ?_|refine Cf ‹_› ?_|refine Ct rfl ?_|refine Cf rfl ?_|refine Bi rfl ?_|refine Bz rfl ?_|refine Lr ?_);conv=>whnf))
  refine WLoop_v ⟨[0, 3], [], []⟩ (fun i : Int => hdS 23 [(0, .v (vS s)), (3, .v (vI i))] [] []) (fun k i => 0 ≤ i ∧ i + k = s.size ∧ ∀ j : Nat, (j : Int) < i → 97 ≤ bt s j ∧ bt s j ≤ 122) s.size 0 rfl ⟨by omega, by omega, fun j hj => by omega⟩ ?_
  rintro k i ⟨h1, h2, h3⟩
  ((conv=>whnf);repeat((first|refine Ct ‹_› ?_|refine Cf ‹_› ?_|refine Ct rfl ?_|refine Cf rfl ?_|refine Bi rfl ?_|refine Bz rfl ?_|refine Lr ?_);conv=>whnf))
  refine Cnd_i (fun h => ?_) (fun h => ?_)
  · have hi : i < s.size := of_decide_eq_true h
    ((conv=>whnf);repeat((first|refine Ct ‹_› ?_|refine Cf ‹_› ?_|refine Ct rfl ?_|refine Cf rfl ?_|refine Bi rfl ?_|refine Bz rfl ?_|refine Lr ?_);conv=>whnf))
    refine Bnd_i ⟨h1, hi⟩ ?_
    ((conv=>whnf);repeat((first|refine Ct ‹_› ?_|refine Cf ‹_› ?_|refine Ct rfl ?_|refine Cf rfl ?_|refine Bi rfl ?_|refine Bz rfl ?_|refine Lr ?_);conv=>whnf))
    refine Cnd_i (fun g => ?_) (fun g => ?_)
    · have g' := of_decide_eq_true g
      ((conv=>whnf);repeat((first|refine Ct ‹_› ?_|refine Cf ‹_› ?_|refine Ct rfl ?_|refine Cf rfl ?_|refine Bi rfl ?_|refine Bz rfl ?_|refine Lr ?_);conv=>whnf))
      refine ⟨?_, rfl, rfl⟩
      rw [okName_no h1 hi (by omega)]; rfl
    · have g' := of_decide_eq_false g
      ((conv=>whnf);repeat((first|refine Ct ‹_› ?_|refine Cf ‹_› ?_|refine Ct rfl ?_|refine Cf rfl ?_|refine Bi rfl ?_|refine Bz rfl ?_|refine Lr ?_);conv=>whnf))
      refine Bnd_i ⟨h1, hi⟩ ?_
      ((conv=>whnf);repeat((first|refine Ct ‹_› ?_|refine Cf ‹_› ?_|refine Ct rfl ?_|refine Cf rfl ?_|refine Bi rfl ?_|refine Bz rfl ?_|refine Lr ?_);conv=>whnf))
      refine Cnd_i (fun g2 => ?_) (fun g2 => ?_)
      · have g2' := of_decide_eq_true g2
        ((conv=>whnf);repeat((first|refine Ct ‹_› ?_|refine Cf ‹_› ?_|refine Ct rfl ?_|refine Cf rfl ?_|refine Bi rfl ?_|refine Bz rfl ?_|refine Lr ?_);conv=>whnf))
        refine ⟨?_, rfl, rfl⟩
        rw [okName_no h1 hi (by omega)]; rfl
      · have g2' := of_decide_eq_false g2
        ((conv=>whnf);repeat((first|refine Ct ‹_› ?_|refine Cf ‹_› ?_|refine Ct rfl ?_|refine Cf rfl ?_|refine Bi rfl ?_|refine Bz rfl ?_|refine Lr ?_);conv=>whnf))
        refine ⟨k - 1, _, rfl, ?_, ?_, ?_, ?_⟩
        · omega
        · rw [wrapI (by omega)]; omega
        · rw [wrapI (by omega)]; omega
        · rw [wrapI (by omega)]
          intro j hj
          by_cases e : (j : Int) < i
          · exact h3 j e
          · rw [show (j : Int) = i by omega]; omega
  · have hi := of_decide_eq_false h
    ((conv=>whnf);repeat((first|refine Ct ‹_› ?_|refine Cf ‹_› ?_|refine Ct rfl ?_|refine Cf rfl ?_|refine Bi rfl ?_|refine Bz rfl ?_|refine Lr ?_);conv=>whnf))
    refine CallQ_some (F_inRange _ _ _) rfl rfl ?_
    ((conv=>whnf);repeat((first|refine Ct ‹_› ?_|refine Cf ‹_› ?_|refine Ct rfl ?_|refine Cf rfl ?_|refine Bi rfl ?_|refine Bz rfl ?_|refine Lr ?_);conv=>whnf))
    refine ⟨?_, rfl, rfl⟩
    rw [okName_all (fun j hj => h3 j (by omega))]; rfl

/-- the place of the first that is so, or -1 -/
def fi {α : Type} (p : α → Bool) (l : List α) : Int := match l.findIdx? p with
  | some i => i
  | none => -1

theorem fi_at {α : Type} {p : α → Bool} {l : List α} {d : α} {i : Int} (h0 : 0 ≤ i) (h1 : i < l.length) (hlo : ∀ j : Nat, (j : Int) < i → p (l.getD j d) = false) (hi : p (l.getD i.toNat d) = true) : fi p l = i := by
  have : l.findIdx? p = some i.toNat := by
    rw [List.findIdx?_eq_some_iff_getElem]
    have hl : i.toNat < l.length := by omega
    refine ⟨hl, by simpa [hl] using hi, fun j hj => ?_⟩
    have := hlo j (by omega)
    have hl2 : j < l.length := by omega
    simpa [hl2] using this
  unfold fi
  rw [this]
  show ((i.toNat : Nat) : Int) = i
  omega

theorem fi_no {α : Type} {p : α → Bool} {l : List α} {d : α} (h : ∀ j : Nat, j < l.length → p (l.getD j d) = false) : fi p l = -1 := by
  have : l.findIdx? p = none := by
    rw [List.findIdx?_eq_none_iff]
    intro x hx
    obtain ⟨j, hj⟩ := List.mem_iff_getElem?.1 hx
    have hl : j < l.length := (List.getElem?_eq_some_iff.1 hj).1
    have := h j hl
    have e : l[j] = x := by simpa [hl] using hj
    simp [hl, e] at this
    exact this
  unfold fi
  rw [this]

theorem getD_memT {α : Type} {l : List α} {d : α} {i : Int} (h0 : 0 ≤ i) (h1 : i < l.length) : l.getD i.toNat d ∈ l := by
  have : i.toNat < l.length := by omega
  simp [this]

def nameIs (s t : ByteArray) : Bool := s.toList == t.toList

theorem F_IndexFuncTer (l : List Ter) (p : Ter → Bool) (f : Nat) (sz : Nat → Nat) (get : Nat → Nat → Cell) (hl : l.length ≤ maxLen) (hp : ∀ t ∈ l, Fun E0 f [.agg t.cs, .one (.pro (sz 0) (get 0))] [] (.v (vB (p t))) [] []) :
    Fun E0 97 [.one (roT l), .one (.fnp f 1 sz get)] [] (.v (vI (fi p l))) [] [] := by
  have hl : l.length ≤ 9223372036854775807 := hl
  refine Fun_of_xc k97 rfl rfl (fun k q h => by cases h) ?_
  ((conv=>whnf);repeat((first|refine Ct ‹_› ?_|refine Cf ‹_› ?_|refine Ct rfl ?_|refine Cf rfl ?_|refine Bi rfl ?_|refine Bz rfl ?_|refine Lr ?_);conv=>whnf))
  refine WLoop_v ⟨[0, 1, 7, 8], [], []⟩ (fun i : Int => hdS 19 [(0, .v (.one (roT l))), (1, .v (.one (.fnp f 1 sz get))), (7, .v (vI l.length)), (8, .v (vI i))] [] [])
    (fun k i => 0 ≤ i ∧ i + k = l.length ∧ ∀ j : Nat, (j : Int) < i → p (l.getD j Ter.d) = false) l.length 0 rfl ⟨by omega, by omega, fun j hj => by omega⟩ ?_
  rintro k i ⟨h1, h2, h3⟩
  ((conv=>whnf);repeat((first|refine Ct ‹_› ?_|refine Cf ‹_› ?_|refine Ct rfl ?_|refine Cf rfl ?_|refine Bi rfl ?_|refine Bz rfl ?_|refine Lr ?_);conv=>whnf))
  refine Cnd_i (fun h => ?_) (fun h => ?_)
  · have hi' : i < l.length := of_decide_eq_true h
    ((conv=>whnf);repeat((first|refine Ct ‹_› ?_|refine Cf ‹_› ?_|refine Ct rfl ?_|refine Cf rfl ?_|refine Bi rfl ?_|refine Bz rfl ?_|refine Lr ?_);conv=>whnf))
    refine Bnd_i ⟨h1, hi'⟩ ?_
    ((conv=>whnf);repeat((first|refine Ct ‹_› ?_|refine Cf ‹_› ?_|refine Ct rfl ?_|refine Cf rfl ?_|refine Bi rfl ?_|refine Bz rfl ?_|refine Lr ?_);conv=>whnf))
    refine CallQ_some (hp (l.getD i.toNat Ter.d) (getD_memT h1 hi')) rfl rfl ?_
    ((conv=>whnf);repeat((first|refine Ct ‹_› ?_|refine Cf ‹_› ?_|refine Ct rfl ?_|refine Cf rfl ?_|refine Bi rfl ?_|refine Bz rfl ?_|refine Lr ?_);conv=>whnf))
    refine Cnd_i (fun g => ?_) (fun g => ?_)
    · ((conv=>whnf);repeat((first|refine Ct ‹_› ?_|refine Cf ‹_› ?_|refine Ct rfl ?_|refine Cf rfl ?_|refine Bi rfl ?_|refine Bz rfl ?_|refine Lr ?_);conv=>whnf))
      refine ⟨?_, rfl, rfl⟩
      rw [fi_at h1 hi' h3 g]; rfl
    · ((conv=>whnf);repeat((first|refine Ct ‹_› ?_|refine Cf ‹_› ?_|refine Ct rfl ?_|refine Cf rfl ?_|refine Bi rfl ?_|refine Bz rfl ?_|refine Lr ?_);conv=>whnf))
      refine ⟨k - 1, _, rfl, ?_, ?_, ?_, ?_⟩
      · omega
      · rw [wrapI (by omega)]; omega
      · rw [wrapI (by omega)]; omega
      · rw [wrapI (by omega)]
        intro j hj
        by_cases e : (j : Int) < i
        · exact h3 j e
        · have e : j = i.toNat := by omega
          subst e; exact g
  · have hi' := of_decide_eq_false h
    ((conv=>whnf);repeat((first|refine Ct ‹_› ?_|refine Cf ‹_› ?_|refine Ct rfl ?_|refine Cf rfl ?_|refine Bi rfl ?_|refine Bz rfl ?_|refine Lr ?_);conv=>whnf))
    refine ⟨?_, rfl, rfl⟩
    rw [fi_no (fun j hj => h3 j (by omega))]; rfl

theorem F_terrainIndex_1 (t : Ter) (s : ByteArray) : Fun E0 98 [.agg t.cs, .one (.pro 1 fun j => nth [.str s] j)] [] (.v (vB (nameIs t.name s))) [] [] := by
  refine Fun_of_xc k98 rfl rfl (fun k q h => by cases h) ?_
  ((conv=>whnf);repeat((first|refine Ct ‹_› ?_|refine Cf ‹_› ?_|refine Ct rfl ?_|refine Cf rfl ?_|refine Bi rfl ?_|refine Bz rfl ?_|refine Lr ?_);conv=>whnf))
  exact ⟨rfl, rfl, rfl⟩

theorem F_terrainIndex (l : List Ter) (s : ByteArray) (hl : l.length ≤ maxLen) : Fun E0 89 [.one (roT l), vS s] [] (.v (vI (fi (fun t => nameIs t.name s) l))) [] [] := by
  refine Fun_of_xc k89 rfl rfl (fun k q h => by cases h) ?_
  ((conv=>whnf);repeat((first|refine Ct ‹_› ?_|refine Cf ‹_› ?_|refine Ct rfl ?_|refine Cf rfl ?_|refine Bi rfl ?_|refine Bz rfl ?_|refine Lr ?_);conv=>whnf))
  refine CallQ_some (F_IndexFuncTer l (fun t => nameIs t.name s) 98 _ _ hl (fun t _ => F_terrainIndex_1 t s)) rfl rfl ?_
  ((conv=>whnf);repeat((first|refine Ct ‹_› ?_|refine Cf ‹_› ?_|refine Ct rfl ?_|refine Cf rfl ?_|refine Bi rfl ?_|refine Bz rfl ?_|refine Lr ?_);conv=>whnf))
  exact ⟨rfl, rfl, rfl⟩

theorem F_IndexFuncKnd (l : List Knd) (p : Knd → Bool) (f : Nat) (sz : Nat → Nat) (get : Nat → Nat → Cell) (hl : l.length ≤ maxLen) (hp : ∀ t ∈ l, Fun E0 f [.agg t.cs, .one (.pro (sz 0) (get 0))] [] (.v (vB (p t))) [] []) :
    Fun E0 99 [.one (roK l), .one (.fnp f 1 sz get)] [] (.v (vI (fi p l))) [] [] := by
  have hl : l.length ≤ 9223372036854775807 := hl
  refine Fun_of_xc k99 rfl rfl (fun k q h => by cases h) ?_
  ((conv=>whnf);repeat((first|refine Ct ‹_› ?_|refine Cf ‹_› ?_|refine Ct rfl ?_|refine Cf rfl ?_|refine Bi rfl ?_|refine Bz rfl ?_|refine Lr ?_);conv=>whnf))
  refine WLoop_v ⟨[0, 1, 7, 8], [], []⟩ (fun i : Int => hdS 19 [(0, .v (.one (roK l))), (1, .v (.one (.fnp f 1 sz get))), (7, .v (vI l.length)), (8, .v (vI i))] [] [])
    (fun k i => 0 ≤ i ∧ i + k = l.length ∧ ∀ j : Nat, (j : Int) < i → p (l.getD j Knd.d) = false) l.length 0 rfl ⟨by omega, by omega, fun j hj => by omega⟩ ?_
  rintro k i ⟨h1, h2, h3⟩
  ((conv=>whnf);repeat((first|refine Ct ‹_› ?_|refine Cf ‹_› ?_|refine Ct rfl ?_|refine Cf rfl ?_|refine Bi rfl ?_|refine Bz rfl ?_|refine Lr ?_);conv=>whnf))
  refine Cnd_i (fun h => ?_) (fun h => ?_)
  · have hi' : i < l.length := of_decide_eq_true h
    ((conv=>whnf);repeat((first|refine Ct ‹_› ?_|refine Cf ‹_› ?_|refine Ct rfl ?_|refine Cf rfl ?_|refine Bi rfl ?_|refine Bz rfl ?_|refine Lr ?_);conv=>whnf))
    refine Bnd_i ⟨h1, hi'⟩ ?_
    ((conv=>whnf);repeat((first|refine Ct ‹_› ?_|refine Cf ‹_› ?_|refine Ct rfl ?_|refine Cf rfl ?_|refine Bi rfl ?_|refine Bz rfl ?_|refine Lr ?_);conv=>whnf))
    refine CallQ_some (hp (l.getD i.toNat Knd.d) (getD_memT h1 hi')) rfl rfl ?_
    ((conv=>whnf);repeat((first|refine Ct ‹_› ?_|refine Cf ‹_› ?_|refine Ct rfl ?_|refine Cf rfl ?_|refine Bi rfl ?_|refine Bz rfl ?_|refine Lr ?_);conv=>whnf))
    refine Cnd_i (fun g => ?_) (fun g => ?_)
    · ((conv=>whnf);repeat((first|refine Ct ‹_› ?_|refine Cf ‹_› ?_|refine Ct rfl ?_|refine Cf rfl ?_|refine Bi rfl ?_|refine Bz rfl ?_|refine Lr ?_);conv=>whnf))
      refine ⟨?_, rfl, rfl⟩
      rw [fi_at h1 hi' h3 g]; rfl
    · ((conv=>whnf);repeat((first|refine Ct ‹_› ?_|refine Cf ‹_› ?_|refine Ct rfl ?_|refine Cf rfl ?_|refine Bi rfl ?_|refine Bz rfl ?_|refine Lr ?_);conv=>whnf))
      refine ⟨k - 1, _, rfl, ?_, ?_, ?_, ?_⟩
      · omega
      · rw [wrapI (by omega)]; omega
      · rw [wrapI (by omega)]; omega
      · rw [wrapI (by omega)]
        intro j hj
        by_cases e : (j : Int) < i
        · exact h3 j e
        · have e : j = i.toNat := by omega
          subst e; exact g
  · have hi' := of_decide_eq_false h
    ((conv=>whnf);repeat((first|refine Ct ‹_› ?_|refine Cf ‹_› ?_|refine Ct rfl ?_|refine Cf rfl ?_|refine Bi rfl ?_|refine Bz rfl ?_|refine Lr ?_);conv=>whnf))
    refine ⟨?_, rfl, rfl⟩
    rw [fi_no (fun j hj => h3 j (by omega))]; rfl

theorem F_kindIndex_1 (t : Knd) (s : ByteArray) : Fun E0 100 [.agg t.cs, .one (.pro 1 fun j => nth [.str s] j)] [] (.v (vB (nameIs t.name s))) [] [] := by
  refine Fun_of_xc k100 rfl rfl (fun k q h => by cases h) ?_
  ((conv=>whnf);repeat((first|refine Ct ‹_› ?_|refine Cf ‹_› ?_|refine Ct rfl ?_|refine Cf rfl ?_|refine Bi rfl ?_|refine Bz rfl ?_|refine Lr ?_);conv=>whnf))
  exact ⟨rfl, rfl, rfl⟩

theorem F_kindIndex (l : List Knd) (s : ByteArray) (hl : l.length ≤ maxLen) : Fun E0 91 [.one (roK l), vS s] [] (.v (vI (fi (fun t => nameIs t.name s) l))) [] [] := by
  refine Fun_of_xc k91 rfl rfl (fun k q h => by cases h) ?_
  ((conv=>whnf);repeat((first|refine Ct ‹_› ?_|refine Cf ‹_› ?_|refine Ct rfl ?_|refine Cf rfl ?_|refine Bi rfl ?_|refine Bz rfl ?_|refine Lr ?_);conv=>whnf))
  refine CallQ_some (F_IndexFuncKnd l (fun t => nameIs t.name s) 100 _ _ hl (fun t _ => F_kindIndex_1 t s)) rfl rfl ?_
  ((conv=>whnf);repeat((first|refine Ct ‹_› ?_|refine Cf ‹_› ?_|refine Ct rfl ?_|refine Cf rfl ?_|refine Bi rfl ?_|refine Bz rfl ?_|refine Lr ?_);conv=>whnf))
  exact ⟨rfl, rfl, rfl⟩

theorem F_rTerrain (l : List Ter) (s : ByteArray) (hl : l.length ≤ maxLen) : Fun E0 79 [.one (roT l), vS s] [] (.v (vI (fi (fun t => nameIs t.name s) l))) [] [] := by
  have hl : l.length ≤ 9223372036854775807 := hl
  refine Fun_of_xc k79 rfl rfl (fun k q h => by cases h) ?_
  ((conv=>whnf);repeat((first|refine Ct ‹_› ?_|refine Cf ‹_› ?_|refine Ct rfl ?_|refine Cf rfl ?_|refine Bi rfl ?_|refine Bz rfl ?_|refine Lr ?_);conv=>whnf))
  refine WLoop_v ⟨[1, 7, 8, 9], [], []⟩ (fun i : Int => hdS 20 [(1, .v (vS s)), (7, .v (.one (roT l))), (8, .v (vI l.length)), (9, .v (vI i))] [] [])
    (fun k i => 0 ≤ i ∧ i + k = l.length ∧ ∀ j : Nat, (j : Int) < i → nameIs (l.getD j Ter.d).name s = false) l.length 0 rfl ⟨by omega, by omega, fun j hj => by omega⟩ ?_
  rintro k i ⟨h1, h2, h3⟩
  ((conv=>whnf);repeat((first|refine Ct ‹_› ?_|refine Cf ‹_› ?_|refine Ct rfl ?_|refine Cf rfl ?_|refine Bi rfl ?_|refine Bz rfl ?_|refine Lr ?_);conv=>whnf))
  refine Cnd_i (fun h => ?_) (fun h => ?_)
  · have hi' : i < l.length := of_decide_eq_true h
    ((conv=>whnf);repeat((first|refine Ct ‹_› ?_|refine Cf ‹_› ?_|refine Ct rfl ?_|refine Cf rfl ?_|refine Bi rfl ?_|refine Bz rfl ?_|refine Lr ?_);conv=>whnf))
    refine Bnd_i ⟨h1, hi'⟩ ?_
    ((conv=>whnf);repeat((first|refine Ct ‹_› ?_|refine Cf ‹_› ?_|refine Ct rfl ?_|refine Cf rfl ?_|refine Bi rfl ?_|refine Bz rfl ?_|refine Lr ?_);conv=>whnf))
    refine Cnd_i (fun g => ?_) (fun g => ?_)
    · ((conv=>whnf);repeat((first|refine Ct ‹_› ?_|refine Cf ‹_› ?_|refine Ct rfl ?_|refine Cf rfl ?_|refine Bi rfl ?_|refine Bz rfl ?_|refine Lr ?_);conv=>whnf))
      refine ⟨?_, rfl, rfl⟩
      have g : (fun t => nameIs t.name s) (l.getD i.toNat Ter.d) = true := g
      rw [fi_at (p := fun t => nameIs t.name s) (d := Ter.d) h1 hi' h3 g]; rfl
    · ((conv=>whnf);repeat((first|refine Ct ‹_› ?_|refine Cf ‹_› ?_|refine Ct rfl ?_|refine Cf rfl ?_|refine Bi rfl ?_|refine Bz rfl ?_|refine Lr ?_);conv=>whnf))
      refine ⟨k - 1, _, rfl, ?_, ?_, ?_, ?_⟩
      · omega
      · rw [wrapI (by omega)]; omega
      · rw [wrapI (by omega)]; omega
      · rw [wrapI (by omega)]
        intro j hj
        by_cases e : (j : Int) < i
        · exact h3 j e
        · have e : j = i.toNat := by omega
          subst e; exact g
  · have hi' := of_decide_eq_false h
    ((conv=>whnf);repeat((first|refine Ct ‹_› ?_|refine Cf ‹_› ?_|refine Ct rfl ?_|refine Cf rfl ?_|refine Bi rfl ?_|refine Bz rfl ?_|refine Lr ?_);conv=>whnf))
    refine ⟨?_, rfl, rfl⟩
    rw [fi_no (p := fun t => nameIs t.name s) (d := Ter.d) (fun j hj => h3 j (by omega))]; rfl

theorem F_rKind (l : List Knd) (s : ByteArray) (hl : l.length ≤ maxLen) : Fun E0 80 [.one (roK l), vS s] [] (.v (vI (fi (fun t => nameIs t.name s) l))) [] [] := by
  have hl : l.length ≤ 9223372036854775807 := hl
  refine Fun_of_xc k80 rfl rfl (fun k q h => by cases h) ?_
  ((conv=>whnf);repeat((first|refine Ct ‹_› ?_|refine Cf ‹_› ?_|refine Ct rfl ?_|refine Cf rfl ?_|refine Bi rfl ?_|refine Bz rfl ?_|refine Lr ?_);conv=>whnf))
  refine WLoop_v ⟨[1, 7, 8, 9], [], []⟩ (fun i : Int => hdS 20 [(1, .v (vS s)), (7, .v (.one (roK l))), (8, .v (vI l.length)), (9, .v (vI i))] [] [])
    (fun k i => 0 ≤ i ∧ i + k = l.length ∧ ∀ j : Nat, (j : Int) < i → nameIs (l.getD j Knd.d).name s = false) l.length 0 rfl ⟨by omega, by omega, fun j hj => by omega⟩ ?_
  rintro k i ⟨h1, h2, h3⟩
  ((conv=>whnf);repeat((first|refine Ct ‹_› ?_|refine Cf ‹_› ?_|refine Ct rfl ?_|refine Cf rfl ?_|refine Bi rfl ?_|refine Bz rfl ?_|refine Lr ?_);conv=>whnf))
  refine Cnd_i (fun h => ?_) (fun h => ?_)
  · have hi' : i < l.length := of_decide_eq_true h
    ((conv=>whnf);repeat((first|refine Ct ‹_› ?_|refine Cf ‹_› ?_|refine Ct rfl ?_|refine Cf rfl ?_|refine Bi rfl ?_|refine Bz rfl ?_|refine Lr ?_);conv=>whnf))
    refine Bnd_i ⟨h1, hi'⟩ ?_
    ((conv=>whnf);repeat((first|refine Ct ‹_› ?_|refine Cf ‹_› ?_|refine Ct rfl ?_|refine Cf rfl ?_|refine Bi rfl ?_|refine Bz rfl ?_|refine Lr ?_);conv=>whnf))
    refine Cnd_i (fun g => ?_) (fun g => ?_)
    · ((conv=>whnf);repeat((first|refine Ct ‹_› ?_|refine Cf ‹_› ?_|refine Ct rfl ?_|refine Cf rfl ?_|refine Bi rfl ?_|refine Bz rfl ?_|refine Lr ?_);conv=>whnf))
      refine ⟨?_, rfl, rfl⟩
      have g : (fun t => nameIs t.name s) (l.getD i.toNat Knd.d) = true := g
      rw [fi_at (p := fun t => nameIs t.name s) (d := Knd.d) h1 hi' h3 g]; rfl
    · ((conv=>whnf);repeat((first|refine Ct ‹_› ?_|refine Cf ‹_› ?_|refine Ct rfl ?_|refine Cf rfl ?_|refine Bi rfl ?_|refine Bz rfl ?_|refine Lr ?_);conv=>whnf))
      refine ⟨k - 1, _, rfl, ?_, ?_, ?_, ?_⟩
      · omega
      · rw [wrapI (by omega)]; omega
      · rw [wrapI (by omega)]; omega
      · rw [wrapI (by omega)]
        intro j hj
        by_cases e : (j : Int) < i
        · exact h3 j e
        · have e : j = i.toNat := by omega
          subst e; exact g
  · have hi' := of_decide_eq_false h
    ((conv=>whnf);repeat((first|refine Ct ‹_› ?_|refine Cf ‹_› ?_|refine Ct rfl ?_|refine Cf rfl ?_|refine Bi rfl ?_|refine Bz rfl ?_|refine Lr ?_);conv=>whnf))
    refine ⟨?_, rfl, rfl⟩
    rw [fi_no (p := fun t => nameIs t.name s) (d := Knd.d) (fun j hj => h3 j (by omega))]; rfl

theorem fi_ge {α : Type} (p : α → Bool) (l : List α) : decide (fi p l ≥ 0) = l.any p := by
  unfold fi
  cases h : l.findIdx? p with
  | some i =>
    have : l.any p = true := by
      rw [List.any_eq_true]
      rw [List.findIdx?_eq_some_iff_getElem] at h
      obtain ⟨h1, h2, _⟩ := h
      exact ⟨_, List.getElem_mem h1, h2⟩
    rw [this]; simp
  | none =>
    rw [List.findIdx?_eq_none_iff] at h
    have : l.any p = false := by
      rw [List.any_eq_false]
      intro x hx; rw [h x hx]; simp
    rw [this]; decide

theorem F_IndexFuncI (l : List Int) (p : Int → Bool) (f m : Nat) (sz : Nat → Nat) (get : Nat → Nat → Cell) (caps : List V) (hc : ((List.range m).map fun i => V.one (.pro (sz i) (get i))) = caps) (hl : l.length ≤ maxLen) (hp : ∀ x ∈ l, Fun E0 f (vI x :: caps) [] (.v (vB (p x))) [] []) :
    Fun E0 94 [.one (roI l), .one (.fnp f m sz get)] [] (.v (vI (fi p l))) [] [] := by
  have hl : l.length ≤ 9223372036854775807 := hl
  refine Fun_of_xc k94 rfl rfl (fun k q h => by cases h) ?_
  ((conv=>whnf);repeat((first|refine Ct ‹_› ?_|refine Cf ‹_› ?_|refine Ct rfl ?_|refine Cf rfl ?_|refine Bi rfl ?_|refine Bz rfl ?_|refine Lr ?_);conv=>whnf))
  refine WLoop_v ⟨[0, 1, 7, 8], [], []⟩ (fun i : Int => hdS 19 [(0, .v (.one (roI l))), (1, .v (.one (.fnp f m sz get))), (7, .v (vI l.length)), (8, .v (vI i))] [] [])
    (fun k i => 0 ≤ i ∧ i + k = l.length ∧ ∀ j : Nat, (j : Int) < i → p (l.getD j 0) = false) l.length 0 rfl ⟨by omega, by omega, fun j hj => by omega⟩ ?_
  rintro k i ⟨h1, h2, h3⟩
  ((conv=>whnf);repeat((first|refine Ct ‹_› ?_|refine Cf ‹_› ?_|refine Ct rfl ?_|refine Cf rfl ?_|refine Bi rfl ?_|refine Bz rfl ?_|refine Lr ?_);conv=>whnf))
  refine Cnd_i (fun h => ?_) (fun h => ?_)
  · have hi' : i < l.length := of_decide_eq_true h
    ((conv=>whnf);repeat((first|refine Ct ‹_› ?_|refine Cf ‹_› ?_|refine Ct rfl ?_|refine Cf rfl ?_|refine Bi rfl ?_|refine Bz rfl ?_|refine Lr ?_);conv=>whnf))
    refine Bnd_i ⟨h1, hi'⟩ ?_
    ((conv=>whnf);repeat((first|refine Ct ‹_› ?_|refine Cf ‹_› ?_|refine Ct rfl ?_|refine Cf rfl ?_|refine Bi rfl ?_|refine Bz rfl ?_|refine Lr ?_);conv=>whnf))
    rw [hc]
    refine CallQ_some (hp (l.getD i.toNat 0) (getD_memT h1 hi')) rfl rfl ?_
    ((conv=>whnf);repeat((first|refine Ct ‹_› ?_|refine Cf ‹_› ?_|refine Ct rfl ?_|refine Cf rfl ?_|refine Bi rfl ?_|refine Bz rfl ?_|refine Lr ?_);conv=>whnf))
    refine Cnd_i (fun g => ?_) (fun g => ?_)
    · ((conv=>whnf);repeat((first|refine Ct ‹_› ?_|refine Cf ‹_› ?_|refine Ct rfl ?_|refine Cf rfl ?_|refine Bi rfl ?_|refine Bz rfl ?_|refine Lr ?_);conv=>whnf))
      refine ⟨?_, rfl, rfl⟩
      rw [fi_at h1 hi' h3 g]; rfl
    · ((conv=>whnf);repeat((first|refine Ct ‹_› ?_|refine Cf ‹_› ?_|refine Ct rfl ?_|refine Cf rfl ?_|refine Bi rfl ?_|refine Bz rfl ?_|refine Lr ?_);conv=>whnf))
      refine ⟨k - 1, _, rfl, ?_, ?_, ?_, ?_⟩
      · omega
      · rw [wrapI (by omega)]; omega
      · rw [wrapI (by omega)]; omega
      · rw [wrapI (by omega)]
        intro j hj
        by_cases e : (j : Int) < i
        · exact h3 j e
        · have e : j = i.toNat := by omega
          subst e; exact g
  · have hi' := of_decide_eq_false h
    ((conv=>whnf);repeat((first|refine Ct ‹_› ?_|refine Cf ‹_› ?_|refine Ct rfl ?_|refine Cf rfl ?_|refine Bi rfl ?_|refine Bz rfl ?_|refine Lr ?_);conv=>whnf))
    refine ⟨?_, rfl, rfl⟩
    rw [fi_no (fun j hj => h3 j (by omega))]; rfl

theorem F_ContainsFuncI (l : List Int) (p : Int → Bool) (f m : Nat) (sz : Nat → Nat) (get : Nat → Nat → Cell) (caps : List V) (hc : ((List.range m).map fun i => V.one (.pro (sz i) (get i))) = caps) (hl : l.length ≤ maxLen) (hp : ∀ x ∈ l, Fun E0 f (vI x :: caps) [] (.v (vB (p x))) [] []) :
    Fun E0 84 [.one (roI l), .one (.fnp f m sz get)] [] (.v (vB (l.any p))) [] [] := by
  refine Fun_of_xc k84 rfl rfl (fun k q h => by cases h) ?_
  ((conv=>whnf);repeat((first|refine Ct ‹_› ?_|refine Cf ‹_› ?_|refine Ct rfl ?_|refine Cf rfl ?_|refine Bi rfl ?_|refine Bz rfl ?_|refine Lr ?_);conv=>whnf))
  refine CallQ_some (F_IndexFuncI l p f m sz get caps hc hl hp) rfl rfl ?_
  ((conv=>whnf);repeat((first|refine Ct ‹_› ?_|refine Cf ‹_› ?_|refine Ct rfl ?_|refine Cf rfl ?_|refine Bi rfl ?_|refine Bz rfl ?_|refine Lr ?_);conv=>whnf))
  refine ⟨?_, rfl, rfl⟩
  rw [← fi_ge]; rfl

theorem F_goodTerrain_1 (c : Int) : Fun E0 96 [vI c] [] (.v (vB (!In c 0 9))) [] [] := by
  refine Fun_of_xc k96 rfl rfl (fun k q h => by cases h) ?_
  ((conv=>whnf);repeat((first|refine Ct ‹_› ?_|refine Cf ‹_› ?_|refine Ct rfl ?_|refine Cf rfl ?_|refine Bi rfl ?_|refine Bz rfl ?_|refine Lr ?_);conv=>whnf))
  refine CallQ_some (F_inRange _ _ _) rfl rfl ?_
  ((conv=>whnf);repeat((first|refine Ct ‹_› ?_|refine Cf ‹_› ?_|refine Ct rfl ?_|refine Cf rfl ?_|refine Bi rfl ?_|refine Bz rfl ?_|refine Lr ?_);conv=>whnf))
  exact ⟨rfl, rfl, rfl⟩

def okTer (t : Ter) (kinds : Int) : Bool := okName t.name && ((t.cost.length : Int) == kinds) && In t.shift (-3) 3 && In t.height 0 3 && (t.cost.all fun c => In c 0 9)

def okKnd (k : Knd) : Bool := okName k.name && In k.str 1 9 && In k.mov 0 9 && In k.ste 1 4 && In k.view 0 4

theorem not_any {l : List Int} : (!(l.any fun c => !In c 0 9)) = l.all fun c => In c 0 9 := by
  rw [List.not_any_eq_all_not]
  congr 1
  funext c
  simp

theorem F_goodTerrain (t : Ter) (ht : t.Ok) (kinds : Int) : Fun E0 88 [.agg t.cs, vI kinds] [] (.v (vB (okTer t kinds))) [] [] := by
  refine Fun_of_xc k88 rfl rfl (fun k q h => by cases h) ?_
  ((conv=>whnf);repeat((first|refine Ct ‹_› ?_|refine Cf ‹_› ?_|refine Ct rfl ?_|refine Cf rfl ?_|refine Bi rfl ?_|refine Bz rfl ?_|refine Lr ?_);conv=>whnf))
  refine CallQ_some (F_isName _ ht.name) rfl rfl ?_
  ((conv=>whnf);repeat((first|refine Ct ‹_› ?_|refine Cf ‹_› ?_|refine Ct rfl ?_|refine Cf rfl ?_|refine Bi rfl ?_|refine Bz rfl ?_|refine Lr ?_);conv=>whnf))
  refine Cnd_i (fun g1 => ?_) (fun g1 => ?_)
  · have g1 : okName t.name = false := by simpa using g1
    ((conv=>whnf);repeat((first|refine Ct ‹_› ?_|refine Cf ‹_› ?_|refine Ct rfl ?_|refine Cf rfl ?_|refine Bi rfl ?_|refine Bz rfl ?_|refine Lr ?_);conv=>whnf))
    refine ⟨?_, rfl, rfl⟩
    simp [okTer, g1, tupOf]
  · have e1 : okName t.name = true := by simpa using g1
    ((conv=>whnf);repeat((first|refine Ct ‹_› ?_|refine Cf ‹_› ?_|refine Ct rfl ?_|refine Cf rfl ?_|refine Bi rfl ?_|refine Bz rfl ?_|refine Lr ?_);conv=>whnf))
    refine Cnd_i (fun g2 => ?_) (fun g2 => ?_)
    · have g2 : ((t.cost.length : Int) == kinds) = false := by simpa using g2
      ((conv=>whnf);repeat((first|refine Ct ‹_› ?_|refine Cf ‹_› ?_|refine Ct rfl ?_|refine Cf rfl ?_|refine Bi rfl ?_|refine Bz rfl ?_|refine Lr ?_);conv=>whnf))
      refine ⟨?_, rfl, rfl⟩
      simp [okTer, g2, tupOf]
    · have e2 : ((t.cost.length : Int) == kinds) = true := by simpa using g2
      ((conv=>whnf);repeat((first|refine Ct ‹_› ?_|refine Cf ‹_› ?_|refine Ct rfl ?_|refine Cf rfl ?_|refine Bi rfl ?_|refine Bz rfl ?_|refine Lr ?_);conv=>whnf))
      refine CallQ_some (F_inRange _ _ _) rfl rfl ?_
      ((conv=>whnf);repeat((first|refine Ct ‹_› ?_|refine Cf ‹_› ?_|refine Ct rfl ?_|refine Cf rfl ?_|refine Bi rfl ?_|refine Bz rfl ?_|refine Lr ?_);conv=>whnf))
      refine Cnd_i (fun g3 => ?_) (fun g3 => ?_)
      · have g3 : In t.shift (-3) 3 = false := by simpa using g3
        ((conv=>whnf);repeat((first|refine Ct ‹_› ?_|refine Cf ‹_› ?_|refine Ct rfl ?_|refine Cf rfl ?_|refine Bi rfl ?_|refine Bz rfl ?_|refine Lr ?_);conv=>whnf))
        refine ⟨?_, rfl, rfl⟩
        simp [okTer, g3, tupOf]
      · have e3 : In t.shift (-3) 3 = true := by simpa using g3
        ((conv=>whnf);repeat((first|refine Ct ‹_› ?_|refine Cf ‹_› ?_|refine Ct rfl ?_|refine Cf rfl ?_|refine Bi rfl ?_|refine Bz rfl ?_|refine Lr ?_);conv=>whnf))
        refine CallQ_some (F_inRange _ _ _) rfl rfl ?_
        ((conv=>whnf);repeat((first|refine Ct ‹_› ?_|refine Cf ‹_› ?_|refine Ct rfl ?_|refine Cf rfl ?_|refine Bi rfl ?_|refine Bz rfl ?_|refine Lr ?_);conv=>whnf))
        refine Cnd_i (fun g4 => ?_) (fun g4 => ?_)
        · have g4 : In t.height 0 3 = false := by simpa using g4
          ((conv=>whnf);repeat((first|refine Ct ‹_› ?_|refine Cf ‹_› ?_|refine Ct rfl ?_|refine Cf rfl ?_|refine Bi rfl ?_|refine Bz rfl ?_|refine Lr ?_);conv=>whnf))
          refine ⟨?_, rfl, rfl⟩
          simp [okTer, g4, tupOf]
        · have e4 : In t.height 0 3 = true := by simpa using g4
          ((conv=>whnf);repeat((first|refine Ct ‹_› ?_|refine Cf ‹_› ?_|refine Ct rfl ?_|refine Cf rfl ?_|refine Bi rfl ?_|refine Bz rfl ?_|refine Lr ?_);conv=>whnf))
          refine CallQ_some (F_ContainsFuncI t.cost (fun c => !In c 0 9) 96 0 _ _ [] rfl ht.cost.len (fun x _ => F_goodTerrain_1 x)) rfl rfl ?_
          ((conv=>whnf);repeat((first|refine Ct ‹_› ?_|refine Cf ‹_› ?_|refine Ct rfl ?_|refine Cf rfl ?_|refine Bi rfl ?_|refine Bz rfl ?_|refine Lr ?_);conv=>whnf))
          refine ⟨?_, rfl, rfl⟩
          rw [not_any]
          simp only [okTer, e1, e2, e3, e4, Bool.true_and]
          rfl

theorem F_goodKind (t : Knd) (ht : t.Ok) : Fun E0 90 [.agg t.cs] [] (.v (vB (okKnd t))) [] [] := by
  refine Fun_of_xc k90 rfl rfl (fun k q h => by cases h) ?_
  ((conv=>whnf);repeat((first|refine Ct ‹_› ?_|refine Cf ‹_› ?_|refine Ct rfl ?_|refine Cf rfl ?_|refine Bi rfl ?_|refine Bz rfl ?_|refine Lr ?_);conv=>whnf))
  refine CallQ_some (F_isName _ ht.name) rfl rfl ?_
  ((conv=>whnf);repeat((first|refine Ct ‹_› ?_|refine Cf ‹_› ?_|refine Ct rfl ?_|refine Cf rfl ?_|refine Bi rfl ?_|refine Bz rfl ?_|refine Lr ?_);conv=>whnf))
  refine Cnd_i (fun e1 => ?_) (fun g1 => ?_)
  · ((conv=>whnf);repeat((first|refine Ct ‹_› ?_|refine Cf ‹_› ?_|refine Ct rfl ?_|refine Cf rfl ?_|refine Bi rfl ?_|refine Bz rfl ?_|refine Lr ?_);conv=>whnf))
    refine CallQ_some (F_inRange _ _ _) rfl rfl ?_
    ((conv=>whnf);repeat((first|refine Ct ‹_› ?_|refine Cf ‹_› ?_|refine Ct rfl ?_|refine Cf rfl ?_|refine Bi rfl ?_|refine Bz rfl ?_|refine Lr ?_);conv=>whnf))
    refine Cnd_i (fun e2 => ?_) (fun g2 => ?_)
    · ((conv=>whnf);repeat((first|refine Ct ‹_› ?_|refine Cf ‹_› ?_|refine Ct rfl ?_|refine Cf rfl ?_|refine Bi rfl ?_|refine Bz rfl ?_|refine Lr ?_);conv=>whnf))
      refine CallQ_some (F_inRange _ _ _) rfl rfl ?_
      ((conv=>whnf);repeat((first|refine Ct ‹_› ?_|refine Cf ‹_› ?_|refine Ct rfl ?_|refine Cf rfl ?_|refine Bi rfl ?_|refine Bz rfl ?_|refine Lr ?_);conv=>whnf))
      refine Cnd_i (fun e3 => ?_) (fun g3 => ?_)
      · ((conv=>whnf);repeat((first|refine Ct ‹_› ?_|refine Cf ‹_› ?_|refine Ct rfl ?_|refine Cf rfl ?_|refine Bi rfl ?_|refine Bz rfl ?_|refine Lr ?_);conv=>whnf))
        refine CallQ_some (F_inRange _ _ _) rfl rfl ?_
        ((conv=>whnf);repeat((first|refine Ct ‹_› ?_|refine Cf ‹_› ?_|refine Ct rfl ?_|refine Cf rfl ?_|refine Bi rfl ?_|refine Bz rfl ?_|refine Lr ?_);conv=>whnf))
        refine Cnd_i (fun e4 => ?_) (fun g4 => ?_)
        · ((conv=>whnf);repeat((first|refine Ct ‹_› ?_|refine Cf ‹_› ?_|refine Ct rfl ?_|refine Cf rfl ?_|refine Bi rfl ?_|refine Bz rfl ?_|refine Lr ?_);conv=>whnf))
          refine CallQ_some (F_inRange _ _ _) rfl rfl ?_
          ((conv=>whnf);repeat((first|refine Ct ‹_› ?_|refine Cf ‹_› ?_|refine Ct rfl ?_|refine Cf rfl ?_|refine Bi rfl ?_|refine Bz rfl ?_|refine Lr ?_);conv=>whnf))
          refine ⟨?_, rfl, rfl⟩
          simp only [okKnd, e1, e2, e3, e4, Bool.true_and]
          rfl
        · ((conv=>whnf);repeat((first|refine Ct ‹_› ?_|refine Cf ‹_› ?_|refine Ct rfl ?_|refine Cf rfl ?_|refine Bi rfl ?_|refine Bz rfl ?_|refine Lr ?_);conv=>whnf))
          refine ⟨?_, rfl, rfl⟩
          simp [okKnd, g4, tupOf]
      · ((conv=>whnf);repeat((first|refine Ct ‹_› ?_|refine Cf ‹_› ?_|refine Ct rfl ?_|refine Cf rfl ?_|refine Bi rfl ?_|refine Bz rfl ?_|refine Lr ?_);conv=>whnf))
        refine ⟨?_, rfl, rfl⟩
        simp [okKnd, g3, tupOf]
    · ((conv=>whnf);repeat((first|refine Ct ‹_› ?_|refine Cf ‹_› ?_|refine Ct rfl ?_|refine Cf rfl ?_|refine Bi rfl ?_|refine Bz rfl ?_|refine Lr ?_);conv=>whnf))
      refine ⟨?_, rfl, rfl⟩
      simp [okKnd, g2, tupOf]
  · ((conv=>whnf);repeat((first|refine Ct ‹_› ?_|refine Cf ‹_› ?_|refine Ct rfl ?_|refine Cf rfl ?_|refine Bi rfl ?_|refine Bz rfl ?_|refine Lr ?_);conv=>whnf))
    refine ⟨?_, rfl, rfl⟩
    simp [okKnd, g1, tupOf]

def tersOk (r : Rul) : Bool := decide (∀ i : Nat, i < r.ter.length → okTer (r.ter.getD i Ter.d) r.knd.length = true ∧ fi (fun t => nameIs t.name (r.ter.getD i Ter.d).name) r.ter = i)

def kndsOk (r : Rul) : Bool := decide (∀ i : Nat, i < r.knd.length → okKnd (r.knd.getD i Knd.d) = true ∧ fi (fun t => nameIs t.name (r.knd.getD i Knd.d).name) r.knd = i)

def numsOk (r : Rul) : Bool := In r.stack 1 4 && In r.river 0 9 && In r.road 1 9 && In r.supply 0 20 && In r.turns 1 30

def okRul (r : Rul) : Bool := In r.ter.length 1 6 && In r.knd.length 1 4 && tersOk r && kndsOk r && numsOk r

theorem tersOk_no {r : Rul} {i : Int} (h0 : 0 ≤ i) (h1 : i < r.ter.length) (h : ¬ (okTer (r.ter.getD i.toNat Ter.d) r.knd.length = true ∧ fi (fun t => nameIs t.name (r.ter.getD i.toNat Ter.d).name) r.ter = i)) : tersOk r = false := by
  unfold tersOk
  simp only [decide_eq_false_iff_not]
  intro hh
  have := hh i.toNat (by omega)
  rw [show ((i.toNat : Nat) : Int) = i by omega] at this
  exact h this

theorem kndsOk_no {r : Rul} {i : Int} (h0 : 0 ≤ i) (h1 : i < r.knd.length) (h : ¬ (okKnd (r.knd.getD i.toNat Knd.d) = true ∧ fi (fun t => nameIs t.name (r.knd.getD i.toNat Knd.d).name) r.knd = i)) : kndsOk r = false := by
  unfold kndsOk
  simp only [decide_eq_false_iff_not]
  intro hh
  have := hh i.toNat (by omega)
  rw [show ((i.toNat : Nat) : Int) = i by omega] at this
  exact h this

theorem F_IsRules (r : Rul) (hr : r.Ok) : Fun E0 82 [.agg r.cs] [] (.v (vB (okRul r))) [] [] := by
  have hlt : r.ter.length ≤ 9223372036854775807 := hr.lter
  have hlk : r.knd.length ≤ 9223372036854775807 := hr.lknd
  refine Fun_of_xc k82 rfl rfl (fun k q h => by cases h) ?_
  ((conv=>whnf);repeat((first|refine Ct ‹_› ?_|refine Cf ‹_› ?_|refine Ct rfl ?_|refine Cf rfl ?_|refine Bi rfl ?_|refine Bz rfl ?_|refine Lr ?_);conv=>whnf))
  refine CallQ_some (F_inRange _ _ _) rfl rfl ?_
  ((conv=>whnf);repeat((first|refine Ct ‹_› ?_|refine Cf ‹_› ?_|refine Ct rfl ?_|refine Cf rfl ?_|refine Bi rfl ?_|refine Bz rfl ?_|refine Lr ?_);conv=>whnf))
  refine Cnd_i (fun g => ?_) (fun e1 => ?_)
  · have g : In r.ter.length 1 6 = false := by simpa using g
    ((conv=>whnf);repeat((first|refine Ct ‹_› ?_|refine Cf ‹_› ?_|refine Ct rfl ?_|refine Cf rfl ?_|refine Bi rfl ?_|refine Bz rfl ?_|refine Lr ?_);conv=>whnf))
    refine ⟨?_, rfl, rfl⟩
    simp [okRul, g, tupOf]
  have e1 : In r.ter.length 1 6 = true := by simpa using e1
  ((conv=>whnf);repeat((first|refine Ct ‹_› ?_|refine Cf ‹_› ?_|refine Ct rfl ?_|refine Cf rfl ?_|refine Bi rfl ?_|refine Bz rfl ?_|refine Lr ?_);conv=>whnf))
  refine CallQ_some (F_inRange _ _ _) rfl rfl ?_
  ((conv=>whnf);repeat((first|refine Ct ‹_› ?_|refine Cf ‹_› ?_|refine Ct rfl ?_|refine Cf rfl ?_|refine Bi rfl ?_|refine Bz rfl ?_|refine Lr ?_);conv=>whnf))
  refine Cnd_i (fun g => ?_) (fun e2 => ?_)
  · have g : In r.knd.length 1 4 = false := by simpa using g
    ((conv=>whnf);repeat((first|refine Ct ‹_› ?_|refine Cf ‹_› ?_|refine Ct rfl ?_|refine Cf rfl ?_|refine Bi rfl ?_|refine Bz rfl ?_|refine Lr ?_);conv=>whnf))
    refine ⟨?_, rfl, rfl⟩
    simp [okRul, g, tupOf]
  have e2 : In r.knd.length 1 4 = true := by simpa using e2
  ((conv=>whnf);repeat((first|refine Ct ‹_› ?_|refine Cf ‹_› ?_|refine Ct rfl ?_|refine Cf rfl ?_|refine Bi rfl ?_|refine Bz rfl ?_|refine Lr ?_);conv=>whnf))
  refine WLoop_v ⟨[1, 20, 21, 22], [1], []⟩ (fun i : Int => hdS 87 [(1, .v (.one (.box 1 0))), (20, .v (.one (roT r.ter))), (21, .v (vI r.ter.length)), (22, .v (vI i))] [(1, r.cs)] [])
    (fun k i => 0 ≤ i ∧ i + k = r.ter.length ∧ ∀ j : Nat, (j : Int) < i → okTer (r.ter.getD j Ter.d) r.knd.length = true ∧ fi (fun t => nameIs t.name (r.ter.getD j Ter.d).name) r.ter = j) r.ter.length 0 rfl ⟨by omega, by omega, fun j hj => by omega⟩ ?_
  rintro k i ⟨h1, h2, h3⟩
  ((conv=>whnf);repeat((first|refine Ct ‹_› ?_|refine Cf ‹_› ?_|refine Ct rfl ?_|refine Cf rfl ?_|refine Bi rfl ?_|refine Bz rfl ?_|refine Lr ?_);conv=>whnf))
  refine Cnd_i (fun h => ?_) (fun h => ?_)
  · have hi' : i < r.ter.length := of_decide_eq_true h
    ((conv=>whnf);repeat((first|refine Ct ‹_› ?_|refine Cf ‹_› ?_|refine Ct rfl ?_|refine Cf rfl ?_|refine Bi rfl ?_|refine Bz rfl ?_|refine Lr ?_);conv=>whnf))
    refine Bnd_i ⟨h1, hi'⟩ ?_
    ((conv=>whnf);repeat((first|refine Ct ‹_› ?_|refine Cf ‹_› ?_|refine Ct rfl ?_|refine Cf rfl ?_|refine Bi rfl ?_|refine Bz rfl ?_|refine Lr ?_);conv=>whnf))
    refine CallQ_some (F_goodTerrain (r.ter.getD i.toNat Ter.d) (hr.ter _ (getD_memT h1 hi')) _) rfl rfl ?_
    ((conv=>whnf);repeat((first|refine Ct ‹_› ?_|refine Cf ‹_› ?_|refine Ct rfl ?_|refine Cf rfl ?_|refine Bi rfl ?_|refine Bz rfl ?_|refine Lr ?_);conv=>whnf))
    refine Cnd_i (fun g => ?_) (fun e3 => ?_)
    · have g : okTer (r.ter.getD i.toNat Ter.d) r.knd.length = false := by simpa using g
      ((conv=>whnf);repeat((first|refine Ct ‹_› ?_|refine Cf ‹_› ?_|refine Ct rfl ?_|refine Cf rfl ?_|refine Bi rfl ?_|refine Bz rfl ?_|refine Lr ?_);conv=>whnf))
      refine ⟨?_, rfl, rfl⟩
      have := tersOk_no h1 hi' (fun hh => by rw [g] at hh; cases hh.1)
      simp [okRul, this, tupOf]
    have e3 : okTer (r.ter.getD i.toNat Ter.d) r.knd.length = true := by simpa using e3
    ((conv=>whnf);repeat((first|refine Ct ‹_› ?_|refine Cf ‹_› ?_|refine Ct rfl ?_|refine Cf rfl ?_|refine Bi rfl ?_|refine Bz rfl ?_|refine Lr ?_);conv=>whnf))
    refine CallQ_some (F_terrainIndex r.ter (r.ter.getD i.toNat Ter.d).name hr.lter) rfl rfl ?_
    ((conv=>whnf);repeat((first|refine Ct ‹_› ?_|refine Cf ‹_› ?_|refine Ct rfl ?_|refine Cf rfl ?_|refine Bi rfl ?_|refine Bz rfl ?_|refine Lr ?_);conv=>whnf))
    refine Cnd_i (fun g => ?_) (fun e4 => ?_)
    · have g : ¬ fi (fun t => nameIs t.name (r.ter.getD i.toNat Ter.d).name) r.ter = i := by simpa using g
      ((conv=>whnf);repeat((first|refine Ct ‹_› ?_|refine Cf ‹_› ?_|refine Ct rfl ?_|refine Cf rfl ?_|refine Bi rfl ?_|refine Bz rfl ?_|refine Lr ?_);conv=>whnf))
      refine ⟨?_, rfl, rfl⟩
      have := tersOk_no h1 hi' (fun hh => g hh.2)
      simp [okRul, this, tupOf]
    have e4 : fi (fun t => nameIs t.name (r.ter.getD i.toNat Ter.d).name) r.ter = i := by simpa using e4
    ((conv=>whnf);repeat((first|refine Ct ‹_› ?_|refine Cf ‹_› ?_|refine Ct rfl ?_|refine Cf rfl ?_|refine Bi rfl ?_|refine Bz rfl ?_|refine Lr ?_);conv=>whnf))
    refine ⟨k - 1, _, rfl, ?_, ?_, ?_, ?_⟩
    · omega
    · rw [wrapI (by omega)]; omega
    · rw [wrapI (by omega)]; omega
    · rw [wrapI (by omega)]
      intro j hj
      by_cases e : (j : Int) < i
      · exact h3 j e
      · have e : j = i.toNat := by omega
        subst e
        exact ⟨e3, by rw [e4]; omega⟩
  have hi' := of_decide_eq_false h
  have e5 : tersOk r = true := by
    unfold tersOk
    simp only [decide_eq_true_eq]
    exact fun j hj => h3 j (by omega)
  ((conv=>whnf);repeat((first|refine Ct ‹_› ?_|refine Cf ‹_› ?_|refine Ct rfl ?_|refine Cf rfl ?_|refine Bi rfl ?_|refine Bz rfl ?_|refine Lr ?_);conv=>whnf))
  refine WLoop_v ⟨[1, 44, 45, 46], [1], []⟩ (fun i : Int => hdS 87 [(1, .v (.one (.box 1 0))), (44, .v (.one (roK r.knd))), (45, .v (vI r.knd.length)), (46, .v (vI i))] [(1, r.cs)] [])
    (fun k i => 0 ≤ i ∧ i + k = r.knd.length ∧ ∀ j : Nat, (j : Int) < i → okKnd (r.knd.getD j Knd.d) = true ∧ fi (fun t => nameIs t.name (r.knd.getD j Knd.d).name) r.knd = j) r.knd.length 0 rfl ⟨by omega, by omega, fun j hj => by omega⟩ ?_
  clear h h1 h2 h3 hi' k i
  rintro k i ⟨h1, h2, h3⟩
  ((conv=>whnf);repeat((first|refine Ct ‹_› ?_|refine Cf ‹_› ?_|refine Ct rfl ?_|refine Cf rfl ?_|refine Bi rfl ?_|refine Bz rfl ?_|refine Lr ?_);conv=>whnf))
  refine Cnd_i (fun h => ?_) (fun h => ?_)
  · have hi' : i < r.knd.length := of_decide_eq_true h
    ((conv=>whnf);repeat((first|refine Ct ‹_› ?_|refine Cf ‹_› ?_|refine Ct rfl ?_|refine Cf rfl ?_|refine Bi rfl ?_|refine Bz rfl ?_|refine Lr ?_);conv=>whnf))
    refine Bnd_i ⟨h1, hi'⟩ ?_
    ((conv=>whnf);repeat((first|refine Ct ‹_› ?_|refine Cf ‹_› ?_|refine Ct rfl ?_|refine Cf rfl ?_|refine Bi rfl ?_|refine Bz rfl ?_|refine Lr ?_);conv=>whnf))
    refine CallQ_some (F_goodKind (r.knd.getD i.toNat Knd.d) (hr.knd _ (getD_memT h1 hi'))) rfl rfl ?_
    ((conv=>whnf);repeat((first|refine Ct ‹_› ?_|refine Cf ‹_› ?_|refine Ct rfl ?_|refine Cf rfl ?_|refine Bi rfl ?_|refine Bz rfl ?_|refine Lr ?_);conv=>whnf))
    refine Cnd_i (fun g => ?_) (fun e3 => ?_)
    · have g : okKnd (r.knd.getD i.toNat Knd.d) = false := by simpa using g
      ((conv=>whnf);repeat((first|refine Ct ‹_› ?_|refine Cf ‹_› ?_|refine Ct rfl ?_|refine Cf rfl ?_|refine Bi rfl ?_|refine Bz rfl ?_|refine Lr ?_);conv=>whnf))
      refine ⟨?_, rfl, rfl⟩
      have := kndsOk_no h1 hi' (fun hh => by rw [g] at hh; cases hh.1)
      simp [okRul, this, tupOf]
    have e3 : okKnd (r.knd.getD i.toNat Knd.d) = true := by simpa using e3
    ((conv=>whnf);repeat((first|refine Ct ‹_› ?_|refine Cf ‹_› ?_|refine Ct rfl ?_|refine Cf rfl ?_|refine Bi rfl ?_|refine Bz rfl ?_|refine Lr ?_);conv=>whnf))
    refine CallQ_some (F_kindIndex r.knd (r.knd.getD i.toNat Knd.d).name hr.lknd) rfl rfl ?_
    ((conv=>whnf);repeat((first|refine Ct ‹_› ?_|refine Cf ‹_› ?_|refine Ct rfl ?_|refine Cf rfl ?_|refine Bi rfl ?_|refine Bz rfl ?_|refine Lr ?_);conv=>whnf))
    refine Cnd_i (fun g => ?_) (fun e4 => ?_)
    · have g : ¬ fi (fun t => nameIs t.name (r.knd.getD i.toNat Knd.d).name) r.knd = i := by simpa using g
      ((conv=>whnf);repeat((first|refine Ct ‹_› ?_|refine Cf ‹_› ?_|refine Ct rfl ?_|refine Cf rfl ?_|refine Bi rfl ?_|refine Bz rfl ?_|refine Lr ?_);conv=>whnf))
      refine ⟨?_, rfl, rfl⟩
      have := kndsOk_no h1 hi' (fun hh => g hh.2)
      simp [okRul, this, tupOf]
    have e4 : fi (fun t => nameIs t.name (r.knd.getD i.toNat Knd.d).name) r.knd = i := by simpa using e4
    ((conv=>whnf);repeat((first|refine Ct ‹_› ?_|refine Cf ‹_› ?_|refine Ct rfl ?_|refine Cf rfl ?_|refine Bi rfl ?_|refine Bz rfl ?_|refine Lr ?_);conv=>whnf))
    refine ⟨k - 1, _, rfl, ?_, ?_, ?_, ?_⟩
    · omega
    · rw [wrapI (by omega)]; omega
    · rw [wrapI (by omega)]; omega
    · rw [wrapI (by omega)]
      intro j hj
      by_cases e : (j : Int) < i
      · exact h3 j e
      · have e : j = i.toNat := by omega
        subst e
        exact ⟨e3, by rw [e4]; omega⟩
  have hi' := of_decide_eq_false h
  have e6 : kndsOk r = true := by
    unfold kndsOk
    simp only [decide_eq_true_eq]
    exact fun j hj => h3 j (by omega)
  have fin : okRul r = numsOk r := by simp only [okRul, e1, e2, e5, e6, Bool.true_and]
  rw [fin]
  ((conv=>whnf);repeat((first|refine Ct ‹_› ?_|refine Cf ‹_› ?_|refine Ct rfl ?_|refine Cf rfl ?_|refine Bi rfl ?_|refine Bz rfl ?_|refine Lr ?_);conv=>whnf))
  refine CallQ_some (F_inRange _ _ _) rfl rfl ?_
  ((conv=>whnf);repeat((first|refine Ct ‹_› ?_|refine Cf ‹_› ?_|refine Ct rfl ?_|refine Cf rfl ?_|refine Bi rfl ?_|refine Bz rfl ?_|refine Lr ?_);conv=>whnf))
  refine Cnd_i (fun n1 => ?_) (fun g => ?_)
  · ((conv=>whnf);repeat((first|refine Ct ‹_› ?_|refine Cf ‹_› ?_|refine Ct rfl ?_|refine Cf rfl ?_|refine Bi rfl ?_|refine Bz rfl ?_|refine Lr ?_);conv=>whnf))
    refine CallQ_some (F_inRange _ _ _) rfl rfl ?_
    ((conv=>whnf);repeat((first|refine Ct ‹_› ?_|refine Cf ‹_› ?_|refine Ct rfl ?_|refine Cf rfl ?_|refine Bi rfl ?_|refine Bz rfl ?_|refine Lr ?_);conv=>whnf))
    refine Cnd_i (fun n2 => ?_) (fun g => ?_)
    · ((conv=>whnf);repeat((first|refine Ct ‹_› ?_|refine Cf ‹_› ?_|refine Ct rfl ?_|refine Cf rfl ?_|refine Bi rfl ?_|refine Bz rfl ?_|refine Lr ?_);conv=>whnf))
      refine CallQ_some (F_inRange _ _ _) rfl rfl ?_
      ((conv=>whnf);repeat((first|refine Ct ‹_› ?_|refine Cf ‹_› ?_|refine Ct rfl ?_|refine Cf rfl ?_|refine Bi rfl ?_|refine Bz rfl ?_|refine Lr ?_);conv=>whnf))
      refine Cnd_i (fun n3 => ?_) (fun g => ?_)
      · ((conv=>whnf);repeat((first|refine Ct ‹_› ?_|refine Cf ‹_› ?_|refine Ct rfl ?_|refine Cf rfl ?_|refine Bi rfl ?_|refine Bz rfl ?_|refine Lr ?_);conv=>whnf))
        refine CallQ_some (F_inRange _ _ _) rfl rfl ?_
        ((conv=>whnf);repeat((first|refine Ct ‹_› ?_|refine Cf ‹_› ?_|refine Ct rfl ?_|refine Cf rfl ?_|refine Bi rfl ?_|refine Bz rfl ?_|refine Lr ?_);conv=>whnf))
        refine Cnd_i (fun n4 => ?_) (fun g => ?_)
        · ((conv=>whnf);repeat((first|refine Ct ‹_› ?_|refine Cf ‹_› ?_|refine Ct rfl ?_|refine Cf rfl ?_|refine Bi rfl ?_|refine Bz rfl ?_|refine Lr ?_);conv=>whnf))
          refine CallQ_some (F_inRange _ _ _) rfl rfl ?_
          ((conv=>whnf);repeat((first|refine Ct ‹_› ?_|refine Cf ‹_› ?_|refine Ct rfl ?_|refine Cf rfl ?_|refine Bi rfl ?_|refine Bz rfl ?_|refine Lr ?_);conv=>whnf))
          refine ⟨?_, rfl, rfl⟩
          simp only [numsOk, n1, n2, n3, n4, Bool.true_and]
          rfl
        · ((conv=>whnf);repeat((first|refine Ct ‹_› ?_|refine Cf ‹_› ?_|refine Ct rfl ?_|refine Cf rfl ?_|refine Bi rfl ?_|refine Bz rfl ?_|refine Lr ?_);conv=>whnf))
          refine ⟨?_, rfl, rfl⟩
          simp [numsOk, g, tupOf]
      · ((conv=>whnf);repeat((first|refine Ct ‹_› ?_|refine Cf ‹_› ?_|refine Ct rfl ?_|refine Cf rfl ?_|refine Bi rfl ?_|refine Bz rfl ?_|refine Lr ?_);conv=>whnf))
        refine ⟨?_, rfl, rfl⟩
        simp [numsOk, g, tupOf]
    · ((conv=>whnf);repeat((first|refine Ct ‹_› ?_|refine Cf ‹_› ?_|refine Ct rfl ?_|refine Cf rfl ?_|refine Bi rfl ?_|refine Bz rfl ?_|refine Lr ?_);conv=>whnf))
      refine ⟨?_, rfl, rfl⟩
      simp [numsOk, g, tupOf]
  · ((conv=>whnf);repeat((first|refine Ct ‹_› ?_|refine Cf ‹_› ?_|refine Ct rfl ?_|refine Cf rfl ?_|refine Bi rfl ?_|refine Bz rfl ?_|refine Lr ?_);conv=>whnf))
    refine ⟨?_, rfl, rfl⟩
    simp [numsOk, g, tupOf]

theorem F_rGood (r : Rul) (hr : r.Ok) : Fun E0 73 [.agg r.cs] [] (.v (vB (okRul r))) [] [] := by
  have hlt : r.ter.length ≤ 9223372036854775807 := hr.lter
  have hlk : r.knd.length ≤ 9223372036854775807 := hr.lknd
  refine Fun_of_xc k73 rfl rfl (fun k q h => by cases h) ?_
  ((conv=>whnf);repeat((first|refine Ct ‹_› ?_|refine Cf ‹_› ?_|refine Ct rfl ?_|refine Cf rfl ?_|refine Bi rfl ?_|refine Bz rfl ?_|refine Lr ?_);conv=>whnf))
  refine CallQ_some (F_l1In _ _ _) rfl rfl ?_
  ((conv=>whnf);repeat((first|refine Ct ‹_› ?_|refine Cf ‹_› ?_|refine Ct rfl ?_|refine Cf rfl ?_|refine Bi rfl ?_|refine Bz rfl ?_|refine Lr ?_);conv=>whnf))
  refine Cnd_i (fun g => ?_) (fun e1 => ?_)
  · have g : In r.ter.length 1 6 = false := by simpa using g
    ((conv=>whnf);repeat((first|refine Ct ‹_› ?_|refine Cf ‹_› ?_|refine Ct rfl ?_|refine Cf rfl ?_|refine Bi rfl ?_|refine Bz rfl ?_|refine Lr ?_);conv=>whnf))
    refine ⟨?_, rfl, rfl⟩
    simp [okRul, g, tupOf]
  have e1 : In r.ter.length 1 6 = true := by simpa using e1
  ((conv=>whnf);repeat((first|refine Ct ‹_› ?_|refine Cf ‹_› ?_|refine Ct rfl ?_|refine Cf rfl ?_|refine Bi rfl ?_|refine Bz rfl ?_|refine Lr ?_);conv=>whnf))
  refine CallQ_some (F_l1In _ _ _) rfl rfl ?_
  ((conv=>whnf);repeat((first|refine Ct ‹_› ?_|refine Cf ‹_› ?_|refine Ct rfl ?_|refine Cf rfl ?_|refine Bi rfl ?_|refine Bz rfl ?_|refine Lr ?_);conv=>whnf))
  refine Cnd_i (fun g => ?_) (fun e2 => ?_)
  · have g : In r.knd.length 1 4 = false := by simpa using g
    ((conv=>whnf);repeat((first|refine Ct ‹_› ?_|refine Cf ‹_› ?_|refine Ct rfl ?_|refine Cf rfl ?_|refine Bi rfl ?_|refine Bz rfl ?_|refine Lr ?_);conv=>whnf))
    refine ⟨?_, rfl, rfl⟩
    simp [okRul, g, tupOf]
  have e2 : In r.knd.length 1 4 = true := by simpa using e2
  ((conv=>whnf);repeat((first|refine Ct ‹_› ?_|refine Cf ‹_› ?_|refine Ct rfl ?_|refine Cf rfl ?_|refine Bi rfl ?_|refine Bz rfl ?_|refine Lr ?_);conv=>whnf))
  refine WLoop_v ⟨[1, 20, 21, 22], [1], []⟩ (fun i : Int => hdS 137 [(1, .v (.one (.box 1 0))), (20, .v (.one (roT r.ter))), (21, .v (vI r.ter.length)), (22, .v (vI i))] [(1, r.cs)] [])
    (fun k i => 0 ≤ i ∧ i + k = r.ter.length ∧ ∀ j : Nat, (j : Int) < i → okTer (r.ter.getD j Ter.d) r.knd.length = true ∧ fi (fun t => nameIs t.name (r.ter.getD j Ter.d).name) r.ter = j) r.ter.length 0 rfl ⟨by omega, by omega, fun j hj => by omega⟩ ?_
  rintro k i ⟨h1, h2, h3⟩
  ((conv=>whnf);repeat((first|refine Ct ‹_› ?_|refine Cf ‹_› ?_|refine Ct rfl ?_|refine Cf rfl ?_|refine Bi rfl ?_|refine Bz rfl ?_|refine Lr ?_);conv=>whnf))
  refine Cnd_i (fun h => ?_) (fun h => ?_)
  · have hi' : i < r.ter.length := of_decide_eq_true h
    ((conv=>whnf);repeat((first|refine Ct ‹_› ?_|refine Cf ‹_› ?_|refine Ct rfl ?_|refine Cf rfl ?_|refine Bi rfl ?_|refine Bz rfl ?_|refine Lr ?_);conv=>whnf))
    refine Bnd_i ⟨h1, hi'⟩ ?_
    ((conv=>whnf);repeat((first|refine Ct ‹_› ?_|refine Cf ‹_› ?_|refine Ct rfl ?_|refine Cf rfl ?_|refine Bi rfl ?_|refine Bz rfl ?_|refine Lr ?_);conv=>whnf))
    have hx := hr.ter _ (getD_memT (d := Ter.d) h1 hi')
    refine CallQ_some (F_rName _ hx.name) rfl rfl ?_
    ((conv=>whnf);repeat((first|refine Ct ‹_› ?_|refine Cf ‹_› ?_|refine Ct rfl ?_|refine Cf rfl ?_|refine Bi rfl ?_|refine Bz rfl ?_|refine Lr ?_);conv=>whnf))
    refine Cnd_i (fun g => ?_) (fun p1 => ?_)
    · have g : okName (r.ter.getD i.toNat Ter.d).name = false := by simpa using g
      ((conv=>whnf);repeat((first|refine Ct ‹_› ?_|refine Cf ‹_› ?_|refine Ct rfl ?_|refine Cf rfl ?_|refine Bi rfl ?_|refine Bz rfl ?_|refine Lr ?_);conv=>whnf))
      refine ⟨?_, rfl, rfl⟩
      have := tersOk_no h1 hi' (fun hh => by
        have hz : okTer (r.ter.getD i.toNat Ter.d) r.knd.length = false := by simp only [okTer, g, Bool.false_and, Bool.and_false]
        rw [hz] at hh; cases hh.1)
      simp [okRul, this, tupOf]
    have p1 : okName (r.ter.getD i.toNat Ter.d).name = true := by simpa using p1
    ((conv=>whnf);repeat((first|refine Ct ‹_› ?_|refine Cf ‹_› ?_|refine Ct rfl ?_|refine Cf rfl ?_|refine Bi rfl ?_|refine Bz rfl ?_|refine Lr ?_);conv=>whnf))
    refine CallQ_some (F_rTerrain r.ter (r.ter.getD i.toNat Ter.d).name hr.lter) rfl rfl ?_
    ((conv=>whnf);repeat((first|refine Ct ‹_› ?_|refine Cf ‹_› ?_|refine Ct rfl ?_|refine Cf rfl ?_|refine Bi rfl ?_|refine Bz rfl ?_|refine Lr ?_);conv=>whnf))
    refine Cnd_i (fun g => ?_) (fun e4 => ?_)
    · have g : ¬ fi (fun t => nameIs t.name (r.ter.getD i.toNat Ter.d).name) r.ter = i := by simpa using g
      ((conv=>whnf);repeat((first|refine Ct ‹_› ?_|refine Cf ‹_› ?_|refine Ct rfl ?_|refine Cf rfl ?_|refine Bi rfl ?_|refine Bz rfl ?_|refine Lr ?_);conv=>whnf))
      refine ⟨?_, rfl, rfl⟩
      have := tersOk_no h1 hi' (fun hh => g hh.2)
      simp [okRul, this, tupOf]
    have e4 : fi (fun t => nameIs t.name (r.ter.getD i.toNat Ter.d).name) r.ter = i := by simpa using e4
    ((conv=>whnf);repeat((first|refine Ct ‹_› ?_|refine Cf ‹_› ?_|refine Ct rfl ?_|refine Cf rfl ?_|refine Bi rfl ?_|refine Bz rfl ?_|refine Lr ?_);conv=>whnf))
    refine Cnd_i (fun g => ?_) (fun p2 => ?_)
    · have g : (((r.ter.getD i.toNat Ter.d).cost.length : Int) == r.knd.length) = false := by simpa using g
      ((conv=>whnf);repeat((first|refine Ct ‹_› ?_|refine Cf ‹_› ?_|refine Ct rfl ?_|refine Cf rfl ?_|refine Bi rfl ?_|refine Bz rfl ?_|refine Lr ?_);conv=>whnf))
      refine ⟨?_, rfl, rfl⟩
      have := tersOk_no h1 hi' (fun hh => by
        have hz : okTer (r.ter.getD i.toNat Ter.d) r.knd.length = false := by simp only [okTer, g, Bool.false_and, Bool.and_false]
        rw [hz] at hh; cases hh.1)
      simp [okRul, this, tupOf]
    have p2 : (((r.ter.getD i.toNat Ter.d).cost.length : Int) == r.knd.length) = true := by simpa using p2
    ((conv=>whnf);repeat((first|refine Ct ‹_› ?_|refine Cf ‹_› ?_|refine Ct rfl ?_|refine Cf rfl ?_|refine Bi rfl ?_|refine Bz rfl ?_|refine Lr ?_);conv=>whnf))
    refine CallQ_some (F_l1All _ _ _ hx.cost.len) rfl rfl ?_
    ((conv=>whnf);repeat((first|refine Ct ‹_› ?_|refine Cf ‹_› ?_|refine Ct rfl ?_|refine Cf rfl ?_|refine Bi rfl ?_|refine Bz rfl ?_|refine Lr ?_);conv=>whnf))
    refine Cnd_i (fun g => ?_) (fun p3 => ?_)
    · have g : ((r.ter.getD i.toNat Ter.d).cost.all fun c => In c 0 9) = false := by rw [Bool.not_eq_true'] at g; exact g
      ((conv=>whnf);repeat((first|refine Ct ‹_› ?_|refine Cf ‹_› ?_|refine Ct rfl ?_|refine Cf rfl ?_|refine Bi rfl ?_|refine Bz rfl ?_|refine Lr ?_);conv=>whnf))
      refine ⟨?_, rfl, rfl⟩
      have := tersOk_no h1 hi' (fun hh => by
        have hz : okTer (r.ter.getD i.toNat Ter.d) r.knd.length = false := by simp only [okTer, g, Bool.false_and, Bool.and_false]
        rw [hz] at hh; cases hh.1)
      simp [okRul, this, tupOf]
    have p3 : ((r.ter.getD i.toNat Ter.d).cost.all fun c => In c 0 9) = true := by rw [Bool.not_eq_false'] at p3; exact p3
    ((conv=>whnf);repeat((first|refine Ct ‹_› ?_|refine Cf ‹_› ?_|refine Ct rfl ?_|refine Cf rfl ?_|refine Bi rfl ?_|refine Bz rfl ?_|refine Lr ?_);conv=>whnf))
    refine CallQ_some (F_l1In _ _ _) rfl rfl ?_
    ((conv=>whnf);repeat((first|refine Ct ‹_› ?_|refine Cf ‹_› ?_|refine Ct rfl ?_|refine Cf rfl ?_|refine Bi rfl ?_|refine Bz rfl ?_|refine Lr ?_);conv=>whnf))
    refine Cnd_i (fun g => ?_) (fun p4 => ?_)
    · have g : In (r.ter.getD i.toNat Ter.d).shift (-3) 3 = false := by simpa using g
      ((conv=>whnf);repeat((first|refine Ct ‹_› ?_|refine Cf ‹_› ?_|refine Ct rfl ?_|refine Cf rfl ?_|refine Bi rfl ?_|refine Bz rfl ?_|refine Lr ?_);conv=>whnf))
      refine ⟨?_, rfl, rfl⟩
      have := tersOk_no h1 hi' (fun hh => by
        have hz : okTer (r.ter.getD i.toNat Ter.d) r.knd.length = false := by simp only [okTer, g, Bool.false_and, Bool.and_false]
        rw [hz] at hh; cases hh.1)
      simp [okRul, this, tupOf]
    have p4 : In (r.ter.getD i.toNat Ter.d).shift (-3) 3 = true := by simpa using p4
    ((conv=>whnf);repeat((first|refine Ct ‹_› ?_|refine Cf ‹_› ?_|refine Ct rfl ?_|refine Cf rfl ?_|refine Bi rfl ?_|refine Bz rfl ?_|refine Lr ?_);conv=>whnf))
    refine CallQ_some (F_l1In _ _ _) rfl rfl ?_
    ((conv=>whnf);repeat((first|refine Ct ‹_› ?_|refine Cf ‹_› ?_|refine Ct rfl ?_|refine Cf rfl ?_|refine Bi rfl ?_|refine Bz rfl ?_|refine Lr ?_);conv=>whnf))
    refine Cnd_i (fun g => ?_) (fun p5 => ?_)
    · have g : In (r.ter.getD i.toNat Ter.d).height 0 3 = false := by simpa using g
      ((conv=>whnf);repeat((first|refine Ct ‹_› ?_|refine Cf ‹_› ?_|refine Ct rfl ?_|refine Cf rfl ?_|refine Bi rfl ?_|refine Bz rfl ?_|refine Lr ?_);conv=>whnf))
      refine ⟨?_, rfl, rfl⟩
      have := tersOk_no h1 hi' (fun hh => by
        have hz : okTer (r.ter.getD i.toNat Ter.d) r.knd.length = false := by simp only [okTer, g, Bool.false_and, Bool.and_false]
        rw [hz] at hh; cases hh.1)
      simp [okRul, this, tupOf]
    have p5 : In (r.ter.getD i.toNat Ter.d).height 0 3 = true := by simpa using p5
    have e3 : okTer (r.ter.getD i.toNat Ter.d) r.knd.length = true := by simp only [okTer, p1, p2, p3, p4, p5, Bool.true_and]
    ((conv=>whnf);repeat((first|refine Ct ‹_› ?_|refine Cf ‹_› ?_|refine Ct rfl ?_|refine Cf rfl ?_|refine Bi rfl ?_|refine Bz rfl ?_|refine Lr ?_);conv=>whnf))
    refine ⟨k - 1, _, rfl, ?_, ?_, ?_, ?_⟩
    · omega
    · rw [wrapI (by omega)]; omega
    · rw [wrapI (by omega)]; omega
    · rw [wrapI (by omega)]
      intro j hj
      by_cases e : (j : Int) < i
      · exact h3 j e
      · have e : j = i.toNat := by omega
        subst e
        exact ⟨e3, by rw [e4]; omega⟩
  have hi' := of_decide_eq_false h
  have e5 : tersOk r = true := by
    unfold tersOk
    simp only [decide_eq_true_eq]
    exact fun j hj => h3 j (by omega)
  ((conv=>whnf);repeat((first|refine Ct ‹_› ?_|refine Cf ‹_› ?_|refine Ct rfl ?_|refine Cf rfl ?_|refine Bi rfl ?_|refine Bz rfl ?_|refine Lr ?_);conv=>whnf))
  refine WLoop_v ⟨[1, 69, 70, 71], [1], []⟩ (fun i : Int => hdS 137 [(1, .v (.one (.box 1 0))), (69, .v (.one (roK r.knd))), (70, .v (vI r.knd.length)), (71, .v (vI i))] [(1, r.cs)] [])
    (fun k i => 0 ≤ i ∧ i + k = r.knd.length ∧ ∀ j : Nat, (j : Int) < i → okKnd (r.knd.getD j Knd.d) = true ∧ fi (fun t => nameIs t.name (r.knd.getD j Knd.d).name) r.knd = j) r.knd.length 0 rfl ⟨by omega, by omega, fun j hj => by omega⟩ ?_
  clear h h1 h2 h3 hi' k i
  rintro k i ⟨h1, h2, h3⟩
  ((conv=>whnf);repeat((first|refine Ct ‹_› ?_|refine Cf ‹_› ?_|refine Ct rfl ?_|refine Cf rfl ?_|refine Bi rfl ?_|refine Bz rfl ?_|refine Lr ?_);conv=>whnf))
  refine Cnd_i (fun h => ?_) (fun h => ?_)
  · have hi' : i < r.knd.length := of_decide_eq_true h
    ((conv=>whnf);repeat((first|refine Ct ‹_› ?_|refine Cf ‹_› ?_|refine Ct rfl ?_|refine Cf rfl ?_|refine Bi rfl ?_|refine Bz rfl ?_|refine Lr ?_);conv=>whnf))
    refine Bnd_i ⟨h1, hi'⟩ ?_
    ((conv=>whnf);repeat((first|refine Ct ‹_› ?_|refine Cf ‹_› ?_|refine Ct rfl ?_|refine Cf rfl ?_|refine Bi rfl ?_|refine Bz rfl ?_|refine Lr ?_);conv=>whnf))
    have hx := hr.knd _ (getD_memT (d := Knd.d) h1 hi')
    refine CallQ_some (F_rName _ hx.name) rfl rfl ?_
    ((conv=>whnf);repeat((first|refine Ct ‹_› ?_|refine Cf ‹_› ?_|refine Ct rfl ?_|refine Cf rfl ?_|refine Bi rfl ?_|refine Bz rfl ?_|refine Lr ?_);conv=>whnf))
    refine Cnd_i (fun g => ?_) (fun p1 => ?_)
    · have g : okName (r.knd.getD i.toNat Knd.d).name = false := by simpa using g
      ((conv=>whnf);repeat((first|refine Ct ‹_› ?_|refine Cf ‹_› ?_|refine Ct rfl ?_|refine Cf rfl ?_|refine Bi rfl ?_|refine Bz rfl ?_|refine Lr ?_);conv=>whnf))
      refine ⟨?_, rfl, rfl⟩
      have := kndsOk_no h1 hi' (fun hh => by
        have hz : okKnd (r.knd.getD i.toNat Knd.d) = false := by simp only [okKnd, g, Bool.false_and, Bool.and_false]
        rw [hz] at hh; cases hh.1)
      simp [okRul, this, tupOf]
    have p1 : okName (r.knd.getD i.toNat Knd.d).name = true := by simpa using p1
    ((conv=>whnf);repeat((first|refine Ct ‹_› ?_|refine Cf ‹_› ?_|refine Ct rfl ?_|refine Cf rfl ?_|refine Bi rfl ?_|refine Bz rfl ?_|refine Lr ?_);conv=>whnf))
    refine CallQ_some (F_rKind r.knd (r.knd.getD i.toNat Knd.d).name hr.lknd) rfl rfl ?_
    ((conv=>whnf);repeat((first|refine Ct ‹_› ?_|refine Cf ‹_› ?_|refine Ct rfl ?_|refine Cf rfl ?_|refine Bi rfl ?_|refine Bz rfl ?_|refine Lr ?_);conv=>whnf))
    refine Cnd_i (fun g => ?_) (fun e4 => ?_)
    · have g : ¬ fi (fun t => nameIs t.name (r.knd.getD i.toNat Knd.d).name) r.knd = i := by simpa using g
      ((conv=>whnf);repeat((first|refine Ct ‹_› ?_|refine Cf ‹_› ?_|refine Ct rfl ?_|refine Cf rfl ?_|refine Bi rfl ?_|refine Bz rfl ?_|refine Lr ?_);conv=>whnf))
      refine ⟨?_, rfl, rfl⟩
      have := kndsOk_no h1 hi' (fun hh => g hh.2)
      simp [okRul, this, tupOf]
    have e4 : fi (fun t => nameIs t.name (r.knd.getD i.toNat Knd.d).name) r.knd = i := by simpa using e4
    ((conv=>whnf);repeat((first|refine Ct ‹_› ?_|refine Cf ‹_› ?_|refine Ct rfl ?_|refine Cf rfl ?_|refine Bi rfl ?_|refine Bz rfl ?_|refine Lr ?_);conv=>whnf))
    refine CallQ_some (F_l1In _ _ _) rfl rfl ?_
    ((conv=>whnf);repeat((first|refine Ct ‹_› ?_|refine Cf ‹_› ?_|refine Ct rfl ?_|refine Cf rfl ?_|refine Bi rfl ?_|refine Bz rfl ?_|refine Lr ?_);conv=>whnf))
    refine Cnd_i (fun g => ?_) (fun p2 => ?_)
    · have g : In (r.knd.getD i.toNat Knd.d).str 1 9 = false := by simpa using g
      ((conv=>whnf);repeat((first|refine Ct ‹_› ?_|refine Cf ‹_› ?_|refine Ct rfl ?_|refine Cf rfl ?_|refine Bi rfl ?_|refine Bz rfl ?_|refine Lr ?_);conv=>whnf))
      refine ⟨?_, rfl, rfl⟩
      have := kndsOk_no h1 hi' (fun hh => by
        have hz : okKnd (r.knd.getD i.toNat Knd.d) = false := by simp only [okKnd, g, Bool.false_and, Bool.and_false]
        rw [hz] at hh; cases hh.1)
      simp [okRul, this, tupOf]
    have p2 : In (r.knd.getD i.toNat Knd.d).str 1 9 = true := by simpa using p2
    ((conv=>whnf);repeat((first|refine Ct ‹_› ?_|refine Cf ‹_› ?_|refine Ct rfl ?_|refine Cf rfl ?_|refine Bi rfl ?_|refine Bz rfl ?_|refine Lr ?_);conv=>whnf))
    refine CallQ_some (F_l1In _ _ _) rfl rfl ?_
    ((conv=>whnf);repeat((first|refine Ct ‹_› ?_|refine Cf ‹_› ?_|refine Ct rfl ?_|refine Cf rfl ?_|refine Bi rfl ?_|refine Bz rfl ?_|refine Lr ?_);conv=>whnf))
    refine Cnd_i (fun g => ?_) (fun p3 => ?_)
    · have g : In (r.knd.getD i.toNat Knd.d).mov 0 9 = false := by simpa using g
      ((conv=>whnf);repeat((first|refine Ct ‹_› ?_|refine Cf ‹_› ?_|refine Ct rfl ?_|refine Cf rfl ?_|refine Bi rfl ?_|refine Bz rfl ?_|refine Lr ?_);conv=>whnf))
      refine ⟨?_, rfl, rfl⟩
      have := kndsOk_no h1 hi' (fun hh => by
        have hz : okKnd (r.knd.getD i.toNat Knd.d) = false := by simp only [okKnd, g, Bool.false_and, Bool.and_false]
        rw [hz] at hh; cases hh.1)
      simp [okRul, this, tupOf]
    have p3 : In (r.knd.getD i.toNat Knd.d).mov 0 9 = true := by simpa using p3
    ((conv=>whnf);repeat((first|refine Ct ‹_› ?_|refine Cf ‹_› ?_|refine Ct rfl ?_|refine Cf rfl ?_|refine Bi rfl ?_|refine Bz rfl ?_|refine Lr ?_);conv=>whnf))
    refine CallQ_some (F_l1In _ _ _) rfl rfl ?_
    ((conv=>whnf);repeat((first|refine Ct ‹_› ?_|refine Cf ‹_› ?_|refine Ct rfl ?_|refine Cf rfl ?_|refine Bi rfl ?_|refine Bz rfl ?_|refine Lr ?_);conv=>whnf))
    refine Cnd_i (fun g => ?_) (fun p4 => ?_)
    · have g : In (r.knd.getD i.toNat Knd.d).ste 1 4 = false := by simpa using g
      ((conv=>whnf);repeat((first|refine Ct ‹_› ?_|refine Cf ‹_› ?_|refine Ct rfl ?_|refine Cf rfl ?_|refine Bi rfl ?_|refine Bz rfl ?_|refine Lr ?_);conv=>whnf))
      refine ⟨?_, rfl, rfl⟩
      have := kndsOk_no h1 hi' (fun hh => by
        have hz : okKnd (r.knd.getD i.toNat Knd.d) = false := by simp only [okKnd, g, Bool.false_and, Bool.and_false]
        rw [hz] at hh; cases hh.1)
      simp [okRul, this, tupOf]
    have p4 : In (r.knd.getD i.toNat Knd.d).ste 1 4 = true := by simpa using p4
    ((conv=>whnf);repeat((first|refine Ct ‹_› ?_|refine Cf ‹_› ?_|refine Ct rfl ?_|refine Cf rfl ?_|refine Bi rfl ?_|refine Bz rfl ?_|refine Lr ?_);conv=>whnf))
    refine CallQ_some (F_l1In _ _ _) rfl rfl ?_
    ((conv=>whnf);repeat((first|refine Ct ‹_› ?_|refine Cf ‹_› ?_|refine Ct rfl ?_|refine Cf rfl ?_|refine Bi rfl ?_|refine Bz rfl ?_|refine Lr ?_);conv=>whnf))
    refine Cnd_i (fun g => ?_) (fun p5 => ?_)
    · have g : In (r.knd.getD i.toNat Knd.d).view 0 4 = false := by simpa using g
      ((conv=>whnf);repeat((first|refine Ct ‹_› ?_|refine Cf ‹_› ?_|refine Ct rfl ?_|refine Cf rfl ?_|refine Bi rfl ?_|refine Bz rfl ?_|refine Lr ?_);conv=>whnf))
      refine ⟨?_, rfl, rfl⟩
      have := kndsOk_no h1 hi' (fun hh => by
        have hz : okKnd (r.knd.getD i.toNat Knd.d) = false := by simp only [okKnd, g, Bool.false_and, Bool.and_false]
        rw [hz] at hh; cases hh.1)
      simp [okRul, this, tupOf]
    have p5 : In (r.knd.getD i.toNat Knd.d).view 0 4 = true := by simpa using p5
    have e3 : okKnd (r.knd.getD i.toNat Knd.d) = true := by simp only [okKnd, p1, p2, p3, p4, p5, Bool.true_and]
    ((conv=>whnf);repeat((first|refine Ct ‹_› ?_|refine Cf ‹_› ?_|refine Ct rfl ?_|refine Cf rfl ?_|refine Bi rfl ?_|refine Bz rfl ?_|refine Lr ?_);conv=>whnf))
    refine ⟨k - 1, _, rfl, ?_, ?_, ?_, ?_⟩
    · omega
    · rw [wrapI (by omega)]; omega
    · rw [wrapI (by omega)]; omega
    · rw [wrapI (by omega)]
      intro j hj
      by_cases e : (j : Int) < i
      · exact h3 j e
      · have e : j = i.toNat := by omega
        subst e
        exact ⟨e3, by rw [e4]; omega⟩
  have hi' := of_decide_eq_false h
  have e6 : kndsOk r = true := by
    unfold kndsOk
    simp only [decide_eq_true_eq]
    exact fun j hj => h3 j (by omega)
  have fin : okRul r = numsOk r := by simp only [okRul, e1, e2, e5, e6, Bool.true_and]
  rw [fin]
  ((conv=>whnf);repeat((first|refine Ct ‹_› ?_|refine Cf ‹_› ?_|refine Ct rfl ?_|refine Cf rfl ?_|refine Bi rfl ?_|refine Bz rfl ?_|refine Lr ?_);conv=>whnf))
  refine CallQ_some (F_l1In _ _ _) rfl rfl ?_
  ((conv=>whnf);repeat((first|refine Ct ‹_› ?_|refine Cf ‹_› ?_|refine Ct rfl ?_|refine Cf rfl ?_|refine Bi rfl ?_|refine Bz rfl ?_|refine Lr ?_);conv=>whnf))
  refine Cnd_i (fun n1 => ?_) (fun g => ?_)
  · ((conv=>whnf);repeat((first|refine Ct ‹_› ?_|refine Cf ‹_› ?_|refine Ct rfl ?_|refine Cf rfl ?_|refine Bi rfl ?_|refine Bz rfl ?_|refine Lr ?_);conv=>whnf))
    refine CallQ_some (F_l1In _ _ _) rfl rfl ?_
    ((conv=>whnf);repeat((first|refine Ct ‹_› ?_|refine Cf ‹_› ?_|refine Ct rfl ?_|refine Cf rfl ?_|refine Bi rfl ?_|refine Bz rfl ?_|refine Lr ?_);conv=>whnf))
    refine Cnd_i (fun n2 => ?_) (fun g => ?_)
    · ((conv=>whnf);repeat((first|refine Ct ‹_› ?_|refine Cf ‹_› ?_|refine Ct rfl ?_|refine Cf rfl ?_|refine Bi rfl ?_|refine Bz rfl ?_|refine Lr ?_);conv=>whnf))
      refine CallQ_some (F_l1In _ _ _) rfl rfl ?_
      ((conv=>whnf);repeat((first|refine Ct ‹_› ?_|refine Cf ‹_› ?_|refine Ct rfl ?_|refine Cf rfl ?_|refine Bi rfl ?_|refine Bz rfl ?_|refine Lr ?_);conv=>whnf))
      refine Cnd_i (fun n3 => ?_) (fun g => ?_)
      · ((conv=>whnf);repeat((first|refine Ct ‹_› ?_|refine Cf ‹_› ?_|refine Ct rfl ?_|refine Cf rfl ?_|refine Bi rfl ?_|refine Bz rfl ?_|refine Lr ?_);conv=>whnf))
        refine CallQ_some (F_l1In _ _ _) rfl rfl ?_
        ((conv=>whnf);repeat((first|refine Ct ‹_› ?_|refine Cf ‹_› ?_|refine Ct rfl ?_|refine Cf rfl ?_|refine Bi rfl ?_|refine Bz rfl ?_|refine Lr ?_);conv=>whnf))
        refine Cnd_i (fun n4 => ?_) (fun g => ?_)
        · ((conv=>whnf);repeat((first|refine Ct ‹_› ?_|refine Cf ‹_› ?_|refine Ct rfl ?_|refine Cf rfl ?_|refine Bi rfl ?_|refine Bz rfl ?_|refine Lr ?_);conv=>whnf))
          refine CallQ_some (F_l1In _ _ _) rfl rfl ?_
          ((conv=>whnf);repeat((first|refine Ct ‹_› ?_|refine Cf ‹_› ?_|refine Ct rfl ?_|refine Cf rfl ?_|refine Bi rfl ?_|refine Bz rfl ?_|refine Lr ?_);conv=>whnf))
          refine ⟨?_, rfl, rfl⟩
          simp only [numsOk, n1, n2, n3, n4, Bool.true_and]
          rfl
        · ((conv=>whnf);repeat((first|refine Ct ‹_› ?_|refine Cf ‹_› ?_|refine Ct rfl ?_|refine Cf rfl ?_|refine Bi rfl ?_|refine Bz rfl ?_|refine Lr ?_);conv=>whnf))
          refine ⟨?_, rfl, rfl⟩
          simp [numsOk, g, tupOf]
      · ((conv=>whnf);repeat((first|refine Ct ‹_› ?_|refine Cf ‹_› ?_|refine Ct rfl ?_|refine Cf rfl ?_|refine Bi rfl ?_|refine Bz rfl ?_|refine Lr ?_);conv=>whnf))
        refine ⟨?_, rfl, rfl⟩
        simp [numsOk, g, tupOf]
    · ((conv=>whnf);repeat((first|refine Ct ‹_› ?_|refine Cf ‹_› ?_|refine Ct rfl ?_|refine Cf rfl ?_|refine Bi rfl ?_|refine Bz rfl ?_|refine Lr ?_);conv=>whnf))
      refine ⟨?_, rfl, rfl⟩
      simp [numsOk, g, tupOf]
  · ((conv=>whnf);repeat((first|refine Ct ‹_› ?_|refine Cf ‹_› ?_|refine Ct rfl ?_|refine Cf rfl ?_|refine Bi rfl ?_|refine Bz rfl ?_|refine Lr ?_);conv=>whnf))
    refine ⟨?_, rfl, rfl⟩
    simp [numsOk, g, tupOf]

def onEdge (m : Map) (e : Int) : Bool := In e 0 (3 * (m.w * m.h) - 1) && decide (0 ≤ nx m (e.tdiv 3) (e.tmod 3))

def edgesOk (m : Map) (l : List Int) : Bool := (l.all fun e => onEdge m e) && rising l

theorem third {e n : Int} (h0 : 0 ≤ e) (h1 : e ≤ 3 * n - 1) (hn : n ≤ 100) : 0 ≤ e.tdiv 3 ∧ e.tdiv 3 ≤ 1000 ∧ 0 ≤ e.tmod 3 ∧ e.tmod 3 ≤ 5 := by
  rw [Int.tdiv_eq_ediv_of_nonneg h0, Int.tmod_eq_emod_of_nonneg h0]; omega

theorem F_mEdges (m : Map) (hm : WH m) (l : List Int) (hl : l.length ≤ maxLen) : Fun E0 81 [.agg m.cs, .one (roI l)] [] (.v (vB (edgesOk m l))) [] [] := by
  have hl' : l.length ≤ 9223372036854775807 := hl
  have hs := hm.mul
  refine Fun_of_xc k81 rfl rfl (fun k q h => by cases h) ?_
  ((conv=>whnf);repeat((first|refine Ct ‹_› ?_|refine Cf ‹_› ?_|refine Ct rfl ?_|refine Cf rfl ?_|refine Bi rfl ?_|refine Bz rfl ?_|refine Lr ?_);conv=>whnf))
  refine WLoop_v ⟨[1, 2, 7, 8, 9], [2], []⟩ (fun i : Int => hdS 36 [(1, .v (.one (roI l))), (2, .v (.one (.box 2 0))), (7, .v (.one (roI l))), (8, .v (vI l.length)), (9, .v (vI i))] [(2, m.cs)] [])
    (fun k i => 0 ≤ i ∧ i + k = l.length ∧ ∀ j : Nat, (j : Int) < i → onEdge m (l.getD j 0) = true) l.length 0 rfl ⟨by omega, by omega, fun j hj => by omega⟩ ?_
  rintro k i ⟨h1, h2, h3⟩
  ((conv=>whnf);repeat((first|refine Ct ‹_› ?_|refine Cf ‹_› ?_|refine Ct rfl ?_|refine Cf rfl ?_|refine Bi rfl ?_|refine Bz rfl ?_|refine Lr ?_);conv=>whnf))
  refine Cnd_i (fun h => ?_) (fun h => ?_)
  · have hi' : i < l.length := of_decide_eq_true h
    ((conv=>whnf);repeat((first|refine Ct ‹_› ?_|refine Cf ‹_› ?_|refine Ct rfl ?_|refine Cf rfl ?_|refine Bi rfl ?_|refine Bz rfl ?_|refine Lr ?_);conv=>whnf))
    refine Bnd_i ⟨h1, hi'⟩ ?_
    ((conv=>whnf);repeat((first|refine Ct ‹_› ?_|refine Cf ‹_› ?_|refine Ct rfl ?_|refine Cf rfl ?_|refine Bi rfl ?_|refine Bz rfl ?_|refine Lr ?_);conv=>whnf))
    refine CallQ_some (F_mSize m hm) rfl rfl ?_
    ((conv=>whnf);repeat((first|refine Ct ‹_› ?_|refine Cf ‹_› ?_|refine Ct rfl ?_|refine Cf rfl ?_|refine Bi rfl ?_|refine Bz rfl ?_|refine Lr ?_);conv=>whnf))
    refine CallQ_some (F_l1In _ _ _) rfl rfl ?_
    ((conv=>whnf);repeat((first|refine Ct ‹_› ?_|refine Cf ‹_› ?_|refine Ct rfl ?_|refine Cf rfl ?_|refine Bi rfl ?_|refine Bz rfl ?_|refine Lr ?_);conv=>whnf))
    rw [wrapI (n := 3 * (m.w * m.h)) (by omega), wrapI (n := 3 * (m.w * m.h) - 1) (by omega)]
    refine Cnd_i (fun g => ?_) (fun g => ?_)
    · have g : In (l.getD i.toNat 0) 0 (3 * (m.w * m.h) - 1) = false := by rw [Bool.not_eq_true'] at g; exact g
      ((conv=>whnf);repeat((first|refine Ct ‹_› ?_|refine Cf ‹_› ?_|refine Ct rfl ?_|refine Cf rfl ?_|refine Bi rfl ?_|refine Bz rfl ?_|refine Lr ?_);conv=>whnf))
      refine ⟨?_, rfl, rfl⟩
      have := all_not (p := fun e => onEdge m e) h1 hi' (by simp only [onEdge, g, Bool.false_and])
      rw [edgesOk, this]; rfl
    have e1 : In (l.getD i.toNat 0) 0 (3 * (m.w * m.h) - 1) = true := by rw [Bool.not_eq_false'] at g; exact g
    have e2 := of_decide_eq_true e1
    have h4 := third e2.1 e2.2 hs.2
    ((conv=>whnf);repeat((first|refine Ct ‹_› ?_|refine Cf ‹_› ?_|refine Ct rfl ?_|refine Cf rfl ?_|refine Bi rfl ?_|refine Bz rfl ?_|refine Lr ?_);conv=>whnf))
    rw [wrapI (n := (l.getD i.toNat 0).tdiv 3) (by omega)]
    refine CallQ_some (F_mNext m hm _ _ h4.1 h4.2.1 h4.2.2.1 h4.2.2.2) rfl rfl ?_
    ((conv=>whnf);repeat((first|refine Ct ‹_› ?_|refine Cf ‹_› ?_|refine Ct rfl ?_|refine Cf rfl ?_|refine Bi rfl ?_|refine Bz rfl ?_|refine Lr ?_);conv=>whnf))
    refine Cnd_i (fun g => ?_) (fun g => ?_)
    · have g := of_decide_eq_true g
      ((conv=>whnf);repeat((first|refine Ct ‹_› ?_|refine Cf ‹_› ?_|refine Ct rfl ?_|refine Cf rfl ?_|refine Bi rfl ?_|refine Bz rfl ?_|refine Lr ?_);conv=>whnf))
      refine ⟨?_, rfl, rfl⟩
      have := all_not (p := fun e => onEdge m e) h1 hi' (by
        have : decide (0 ≤ nx m ((l.getD i.toNat 0).tdiv 3) ((l.getD i.toNat 0).tmod 3)) = false := by simp only [decide_eq_false_iff_not]; omega
        simp only [onEdge, this, Bool.and_false])
      rw [edgesOk, this]; rfl
    have g := of_decide_eq_false g
    ((conv=>whnf);repeat((first|refine Ct ‹_› ?_|refine Cf ‹_› ?_|refine Ct rfl ?_|refine Cf rfl ?_|refine Bi rfl ?_|refine Bz rfl ?_|refine Lr ?_);conv=>whnf))
    refine ⟨k - 1, _, rfl, ?_, ?_, ?_, ?_⟩
    · omega
    · rw [wrapI (by omega)]; omega
    · rw [wrapI (by omega)]; omega
    · rw [wrapI (by omega)]
      intro j hj
      by_cases e : (j : Int) < i
      · exact h3 j e
      · have e : j = i.toNat := by omega
        subst e
        have : decide (0 ≤ nx m ((l.getD i.toNat 0).tdiv 3) ((l.getD i.toNat 0).tmod 3)) = true := by simp only [decide_eq_true_eq]; omega
        simp only [onEdge, e1, this, Bool.and_self]
  · have hi' := of_decide_eq_false h
    ((conv=>whnf);repeat((first|refine Ct ‹_› ?_|refine Cf ‹_› ?_|refine Ct rfl ?_|refine Cf rfl ?_|refine Bi rfl ?_|refine Bz rfl ?_|refine Lr ?_);conv=>whnf))
    refine CallQ_some (F_mSize m hm) rfl rfl ?_
    ((conv=>whnf);repeat((first|refine Ct ‹_› ?_|refine Cf ‹_› ?_|refine Ct rfl ?_|refine Cf rfl ?_|refine Bi rfl ?_|refine Bz rfl ?_|refine Lr ?_);conv=>whnf))
    refine CallQ_some (F_l1Rising l _ _ hl) rfl rfl ?_
    ((conv=>whnf);repeat((first|refine Ct ‹_› ?_|refine Cf ‹_› ?_|refine Ct rfl ?_|refine Cf rfl ?_|refine Bi rfl ?_|refine Bz rfl ?_|refine Lr ?_);conv=>whnf))
    refine ⟨?_, rfl, rfl⟩
    rw [wrapI (n := 3 * (m.w * m.h)) (by omega), wrapI (n := 3 * (m.w * m.h) - 1) (by omega)]
    have ha : (l.all fun e => onEdge m e) = true := all_upto (fun j hj => h3 j (by omega))
    have hb : (l.all fun a => In a 0 (3 * (m.w * m.h) - 1)) = true := by
      rw [List.all_eq_true] at ha ⊢
      intro x hx
      have := ha x hx
      simp only [onEdge, Bool.and_eq_true] at this
      exact this.1
    rw [edgesOk, ha, hb]; rfl

def okMap (m : Map) : Bool := In m.w 1 10 && In m.h 1 10 && ((m.ter.length : Int) == m.w * m.h) && (m.ter.all fun t => In t 0 5) && edgesOk m m.riv && edgesOk m m.roa

theorem F_mGood (m : Map) (ho : m.Ok) : Fun E0 74 [.agg m.cs] [] (.v (vB (okMap m))) [] [] := by
  refine Fun_of_xc k74 rfl rfl (fun k q h => by cases h) ?_
  ((conv=>whnf);repeat((first|refine Ct ‹_› ?_|refine Cf ‹_› ?_|refine Ct rfl ?_|refine Cf rfl ?_|refine Bi rfl ?_|refine Bz rfl ?_|refine Lr ?_);conv=>whnf))
  refine CallQ_some (F_l1In _ _ _) rfl rfl ?_
  ((conv=>whnf);repeat((first|refine Ct ‹_› ?_|refine Cf ‹_› ?_|refine Ct rfl ?_|refine Cf rfl ?_|refine Bi rfl ?_|refine Bz rfl ?_|refine Lr ?_);conv=>whnf))
  refine Cnd_i (fun e1 => ?_) (fun g => ?_)
  · ((conv=>whnf);repeat((first|refine Ct ‹_› ?_|refine Cf ‹_› ?_|refine Ct rfl ?_|refine Cf rfl ?_|refine Bi rfl ?_|refine Bz rfl ?_|refine Lr ?_);conv=>whnf))
    refine CallQ_some (F_l1In _ _ _) rfl rfl ?_
    ((conv=>whnf);repeat((first|refine Ct ‹_› ?_|refine Cf ‹_› ?_|refine Ct rfl ?_|refine Cf rfl ?_|refine Bi rfl ?_|refine Bz rfl ?_|refine Lr ?_);conv=>whnf))
    refine Cnd_i (fun e2 => ?_) (fun g => ?_)
    · have hw : WH m := ⟨(of_decide_eq_true e1).1, (of_decide_eq_true e1).2, (of_decide_eq_true e2).1, (of_decide_eq_true e2).2⟩
      ((conv=>whnf);repeat((first|refine Ct ‹_› ?_|refine Cf ‹_› ?_|refine Ct rfl ?_|refine Cf rfl ?_|refine Bi rfl ?_|refine Bz rfl ?_|refine Lr ?_);conv=>whnf))
      refine CallQ_some (F_mSize m hw) rfl rfl ?_
      ((conv=>whnf);repeat((first|refine Ct ‹_› ?_|refine Cf ‹_› ?_|refine Ct rfl ?_|refine Cf rfl ?_|refine Bi rfl ?_|refine Bz rfl ?_|refine Lr ?_);conv=>whnf))
      refine Cnd_i (fun e3 => ?_) (fun g => ?_)
      · ((conv=>whnf);repeat((first|refine Ct ‹_› ?_|refine Cf ‹_› ?_|refine Ct rfl ?_|refine Cf rfl ?_|refine Bi rfl ?_|refine Bz rfl ?_|refine Lr ?_);conv=>whnf))
        refine CallQ_some (F_l1All _ _ _ ho.ter.len) rfl rfl ?_
        ((conv=>whnf);repeat((first|refine Ct ‹_› ?_|refine Cf ‹_› ?_|refine Ct rfl ?_|refine Cf rfl ?_|refine Bi rfl ?_|refine Bz rfl ?_|refine Lr ?_);conv=>whnf))
        refine Cnd_i (fun e4 => ?_) (fun g => ?_)
        · ((conv=>whnf);repeat((first|refine Ct ‹_› ?_|refine Cf ‹_› ?_|refine Ct rfl ?_|refine Cf rfl ?_|refine Bi rfl ?_|refine Bz rfl ?_|refine Lr ?_);conv=>whnf))
          refine CallQ_some (F_mEdges m hw _ ho.riv.len) rfl rfl ?_
          ((conv=>whnf);repeat((first|refine Ct ‹_› ?_|refine Cf ‹_› ?_|refine Ct rfl ?_|refine Cf rfl ?_|refine Bi rfl ?_|refine Bz rfl ?_|refine Lr ?_);conv=>whnf))
          refine Cnd_i (fun e5 => ?_) (fun g => ?_)
          · ((conv=>whnf);repeat((first|refine Ct ‹_› ?_|refine Cf ‹_› ?_|refine Ct rfl ?_|refine Cf rfl ?_|refine Bi rfl ?_|refine Bz rfl ?_|refine Lr ?_);conv=>whnf))
            refine CallQ_some (F_mEdges m hw _ ho.roa.len) rfl rfl ?_
            ((conv=>whnf);repeat((first|refine Ct ‹_› ?_|refine Cf ‹_› ?_|refine Ct rfl ?_|refine Cf rfl ?_|refine Bi rfl ?_|refine Bz rfl ?_|refine Lr ?_);conv=>whnf))
            refine ⟨?_, rfl, rfl⟩
            simp only [okMap, e1, e2, e3, e4, e5, Bool.true_and]
            rfl
          · ((conv=>whnf);repeat((first|refine Ct ‹_› ?_|refine Cf ‹_› ?_|refine Ct rfl ?_|refine Cf rfl ?_|refine Bi rfl ?_|refine Bz rfl ?_|refine Lr ?_);conv=>whnf))
            refine ⟨?_, rfl, rfl⟩
            simp only [okMap, g, Bool.and_false, Bool.false_and]
            rfl
        · ((conv=>whnf);repeat((first|refine Ct ‹_› ?_|refine Cf ‹_› ?_|refine Ct rfl ?_|refine Cf rfl ?_|refine Bi rfl ?_|refine Bz rfl ?_|refine Lr ?_);conv=>whnf))
          refine ⟨?_, rfl, rfl⟩
          simp only [okMap, g, Bool.and_false, Bool.false_and]
          rfl
      · ((conv=>whnf);repeat((first|refine Ct ‹_› ?_|refine Cf ‹_› ?_|refine Ct rfl ?_|refine Cf rfl ?_|refine Bi rfl ?_|refine Bz rfl ?_|refine Lr ?_);conv=>whnf))
        refine ⟨?_, rfl, rfl⟩
        simp only [okMap, g, Bool.and_false, Bool.false_and]
        rfl
    · ((conv=>whnf);repeat((first|refine Ct ‹_› ?_|refine Cf ‹_› ?_|refine Ct rfl ?_|refine Cf rfl ?_|refine Bi rfl ?_|refine Bz rfl ?_|refine Lr ?_);conv=>whnf))
      refine ⟨?_, rfl, rfl⟩
      simp only [okMap, g, Bool.and_false, Bool.false_and]
      rfl
  · ((conv=>whnf);repeat((first|refine Ct ‹_› ?_|refine Cf ‹_› ?_|refine Ct rfl ?_|refine Cf rfl ?_|refine Bi rfl ?_|refine Bz rfl ?_|refine Lr ?_);conv=>whnf))
    refine ⟨?_, rfl, rfl⟩
    simp only [okMap, g, Bool.and_false, Bool.false_and]
    rfl

def okBrd (b : Brd) : Bool := okRul b.r && okMap b.m && (b.m.ter.all fun t => In t 0 (b.r.ter.length - 1))

theorem F_bGood (b : Brd) (ho : b.Ok) : Fun E0 59 [.agg b.cs] [] (.v (vB (okBrd b))) [] [] := by
  have hlt : b.r.ter.length ≤ 9223372036854775807 := ho.r.lter
  refine Fun_of_xc k59 rfl rfl (fun k q h => by cases h) ?_
  ((conv=>whnf);repeat((first|refine Ct ‹_› ?_|refine Cf ‹_› ?_|refine Ct rfl ?_|refine Cf rfl ?_|refine Bi rfl ?_|refine Bz rfl ?_|refine Lr ?_);conv=>whnf))
  refine CallQ_some (F_rGood b.r ho.r) rfl rfl ?_
  ((conv=>whnf);repeat((first|refine Ct ‹_› ?_|refine Cf ‹_› ?_|refine Ct rfl ?_|refine Cf rfl ?_|refine Bi rfl ?_|refine Bz rfl ?_|refine Lr ?_);conv=>whnf))
  refine Cnd_i (fun e1 => ?_) (fun g => ?_)
  · ((conv=>whnf);repeat((first|refine Ct ‹_› ?_|refine Cf ‹_› ?_|refine Ct rfl ?_|refine Cf rfl ?_|refine Bi rfl ?_|refine Bz rfl ?_|refine Lr ?_);conv=>whnf))
    refine CallQ_some (F_mGood b.m ho.m) rfl rfl ?_
    ((conv=>whnf);repeat((first|refine Ct ‹_› ?_|refine Cf ‹_› ?_|refine Ct rfl ?_|refine Cf rfl ?_|refine Bi rfl ?_|refine Bz rfl ?_|refine Lr ?_);conv=>whnf))
    refine Cnd_i (fun e2 => ?_) (fun g => ?_)
    · ((conv=>whnf);repeat((first|refine Ct ‹_› ?_|refine Cf ‹_› ?_|refine Ct rfl ?_|refine Cf rfl ?_|refine Bi rfl ?_|refine Bz rfl ?_|refine Lr ?_);conv=>whnf))
      refine CallQ_some (F_l1All _ _ _ ho.m.ter.len) rfl rfl ?_
      ((conv=>whnf);repeat((first|refine Ct ‹_› ?_|refine Cf ‹_› ?_|refine Ct rfl ?_|refine Cf rfl ?_|refine Bi rfl ?_|refine Bz rfl ?_|refine Lr ?_);conv=>whnf))
      refine ⟨?_, rfl, rfl⟩
      rw [wrapI (n := (b.r.ter.length : Int) - 1) (by omega)]
      simp only [okBrd, e1, e2, Bool.true_and]
      rfl
    · ((conv=>whnf);repeat((first|refine Ct ‹_› ?_|refine Cf ‹_› ?_|refine Ct rfl ?_|refine Cf rfl ?_|refine Bi rfl ?_|refine Bz rfl ?_|refine Lr ?_);conv=>whnf))
      refine ⟨?_, rfl, rfl⟩
      simp only [okBrd, g, Bool.and_false, Bool.false_and]
      rfl
  · ((conv=>whnf);repeat((first|refine Ct ‹_› ?_|refine Cf ‹_› ?_|refine Ct rfl ?_|refine Cf rfl ?_|refine Bi rfl ?_|refine Bz rfl ?_|refine Lr ?_);conv=>whnf))
    refine ⟨?_, rfl, rfl⟩
    simp only [okBrd, g, Bool.and_false, Bool.false_and]
    rfl

theorem F_isEdge (m : Map) (hm : WH m) (e : Int) : Fun E0 93 [.agg m.cs, vI e] [] (.v (vB (onEdge m e))) [] [] := by
  have hs := hm.mul
  have hw := hm.w1
  have hw2 := hm.w2
  have e0 : 3 * m.w * m.h = 3 * (m.w * m.h) := Int.mul_assoc 3 m.w m.h
  refine Fun_of_xc k93 rfl rfl (fun k q h => by cases h) ?_
  ((conv=>whnf);repeat((first|refine Ct ‹_› ?_|refine Cf ‹_› ?_|refine Ct rfl ?_|refine Cf rfl ?_|refine Bi rfl ?_|refine Bz rfl ?_|refine Lr ?_);conv=>whnf))
  refine CallQ_some (F_inRange _ _ _) rfl rfl ?_
  ((conv=>whnf);repeat((first|refine Ct ‹_› ?_|refine Cf ‹_› ?_|refine Ct rfl ?_|refine Cf rfl ?_|refine Bi rfl ?_|refine Bz rfl ?_|refine Lr ?_);conv=>whnf))
  rw [wrapI (n := 3 * m.w) (by omega), e0, wrapI (n := 3 * (m.w * m.h)) (by omega), wrapI (n := 3 * (m.w * m.h) - 1) (by omega)]
  refine Cnd_i (fun e1 => ?_) (fun g => ?_)
  · have e2 := of_decide_eq_true e1
    have h4 := third e2.1 e2.2 hs.2
    ((conv=>whnf);repeat((first|refine Ct ‹_› ?_|refine Cf ‹_› ?_|refine Ct rfl ?_|refine Cf rfl ?_|refine Bi rfl ?_|refine Bz rfl ?_|refine Lr ?_);conv=>whnf))
    rw [wrapI (n := e.tdiv 3) (by omega)]
    refine CallQ_some (F_nextTo m hm _ _ h4.1 h4.2.1 h4.2.2.1 h4.2.2.2) rfl rfl ?_
    ((conv=>whnf);repeat((first|refine Ct ‹_› ?_|refine Cf ‹_› ?_|refine Ct rfl ?_|refine Cf rfl ?_|refine Bi rfl ?_|refine Bz rfl ?_|refine Lr ?_);conv=>whnf))
    refine ⟨?_, rfl, rfl⟩
    simp only [onEdge, e1, Bool.true_and]
    rfl
  · ((conv=>whnf);repeat((first|refine Ct ‹_› ?_|refine Cf ‹_› ?_|refine Ct rfl ?_|refine Cf rfl ?_|refine Bi rfl ?_|refine Bz rfl ?_|refine Lr ?_);conv=>whnf))
    refine ⟨?_, rfl, rfl⟩
    simp only [onEdge, g, Bool.false_and]
    rfl

theorem nx_b {m : Map} (h : WH m) (i d : Int) : -1 ≤ nx m i d ∧ nx m i d ≤ m.w * m.h - 1 := by
  have hs := h.mul
  unfold nx ix
  by_cases hc : (0 ≤ i.tmod m.w + dq d ∧ i.tmod m.w + dq d ≤ m.w - 1) ∧ 0 ≤ i.tdiv m.w + dr d ∧ i.tdiv m.w + dr d ≤ m.h - 1
  · rw [if_pos hc]
    have := ix_wrap h hc.1 hc.2
    omega
  · rw [if_neg hc]; omega

def ed (m : Map) (i d : Int) : Int := if d < 3 then 3 * i + d else 3 * nx m i d + d - 3

theorem F_mEdge (m : Map) (h : WH m) (i d : Int) (i0 : 0 ≤ i) (i1 : i ≤ 1000) (h0 : 0 ≤ d) (h5 : d ≤ 5) : Fun E0 61 [.agg m.cs, vI i, vI d] [] (.v (vI (ed m i d))) [] [] := by
  have hb := nx_b h i d
  have hs := h.mul
  refine Fun_of_xc k61 rfl rfl (fun k q h => by cases h) ?_
  ((conv=>whnf);repeat((first|refine Ct ‹_› ?_|refine Cf ‹_› ?_|refine Ct rfl ?_|refine Cf rfl ?_|refine Bi rfl ?_|refine Bz rfl ?_|refine Lr ?_);conv=>whnf))
  refine Cnd_i (fun g => ?_) (fun g => ?_)
  · have g := of_decide_eq_true g
    ((conv=>whnf);repeat((first|refine Ct ‹_› ?_|refine Cf ‹_› ?_|refine Ct rfl ?_|refine Cf rfl ?_|refine Bi rfl ?_|refine Bz rfl ?_|refine Lr ?_);conv=>whnf))
    refine ⟨?_, rfl, rfl⟩
    rw [wrapI (n := 3 * i) (by omega), wrapI (by omega), ed, if_pos g]; rfl
  · have g := of_decide_eq_false g
    ((conv=>whnf);repeat((first|refine Ct ‹_› ?_|refine Cf ‹_› ?_|refine Ct rfl ?_|refine Cf rfl ?_|refine Bi rfl ?_|refine Bz rfl ?_|refine Lr ?_);conv=>whnf))
    refine CallQ_some (F_mNext m h i d i0 i1 h0 h5) rfl rfl ?_
    ((conv=>whnf);repeat((first|refine Ct ‹_› ?_|refine Cf ‹_› ?_|refine Ct rfl ?_|refine Cf rfl ?_|refine Bi rfl ?_|refine Bz rfl ?_|refine Lr ?_);conv=>whnf))
    refine ⟨?_, rfl, rfl⟩
    rw [wrapI (n := 3 * nx m i d) (by omega), wrapI (n := 3 * nx m i d + d) (by omega), wrapI (by omega), ed, if_neg g]; rfl

theorem F_edgeOf (m : Map) (h : WH m) (i d : Int) (i0 : 0 ≤ i) (i1 : i ≤ 1000) (h0 : 0 ≤ d) (h5 : d ≤ 5) (hn : 0 ≤ nx m i d) : Fun E0 49 [.agg m.cs, vI i, vI d] [] (.v (vI (ed m i d))) [] [] := by
  have hb := nx_b h i d
  have hs := h.mul
  refine Fun_of_xc k49 rfl rfl (fun k q h => by cases h) ?_
  ((conv=>whnf);repeat((first|refine Ct ‹_› ?_|refine Cf ‹_› ?_|refine Ct rfl ?_|refine Cf rfl ?_|refine Bi rfl ?_|refine Bz rfl ?_|refine Lr ?_);conv=>whnf))
  refine CallQ_some (F_nextTo m h i d i0 i1 h0 h5) rfl rfl ?_
  ((conv=>whnf);repeat((first|refine Ct ‹_› ?_|refine Cf ‹_› ?_|refine Ct rfl ?_|refine Cf rfl ?_|refine Bi rfl ?_|refine Bz rfl ?_|refine Lr ?_);conv=>whnf))
  refine Cnd_i (fun g => ?_) (fun _ => ?_)
  · have g := of_decide_eq_true g
    omega
  ((conv=>whnf);repeat((first|refine Ct ‹_› ?_|refine Cf ‹_› ?_|refine Ct rfl ?_|refine Cf rfl ?_|refine Bi rfl ?_|refine Bz rfl ?_|refine Lr ?_);conv=>whnf))
  refine Cnd_i (fun g => ?_) (fun g => ?_)
  · have g := of_decide_eq_true g
    ((conv=>whnf);repeat((first|refine Ct ‹_› ?_|refine Cf ‹_› ?_|refine Ct rfl ?_|refine Cf rfl ?_|refine Bi rfl ?_|refine Bz rfl ?_|refine Lr ?_);conv=>whnf))
    refine ⟨?_, rfl, rfl⟩
    rw [wrapI (n := 3 * i) (by omega), wrapI (by omega), ed, if_pos g]; rfl
  · have g := of_decide_eq_false g
    ((conv=>whnf);repeat((first|refine Ct ‹_› ?_|refine Cf ‹_› ?_|refine Ct rfl ?_|refine Cf rfl ?_|refine Bi rfl ?_|refine Bz rfl ?_|refine Lr ?_);conv=>whnf))
    refine ⟨?_, rfl, rfl⟩
    rw [wrapI (n := 3 * nx m i d) (by omega), wrapI (n := 3 * nx m i d + d) (by omega), wrapI (by omega), ed, if_neg g]; rfl

theorem F_mRoad (m : Map) (h : WH m) (ho : m.Ok) (i d : Int) (i0 : 0 ≤ i) (i1 : i ≤ 1000) (h0 : 0 ≤ d) (h5 : d ≤ 5) : Fun E0 35 [.agg m.cs, vI i, vI d] [] (.v (vB (m.roa.contains (ed m i d)))) [] [] := by
  refine Fun_of_xc k35 rfl rfl (fun k q h => by cases h) ?_
  ((conv=>whnf);repeat((first|refine Ct ‹_› ?_|refine Cf ‹_› ?_|refine Ct rfl ?_|refine Cf rfl ?_|refine Bi rfl ?_|refine Bz rfl ?_|refine Lr ?_);conv=>whnf))
  refine CallQ_some (F_mEdge m h i d i0 i1 h0 h5) rfl rfl ?_
  ((conv=>whnf);repeat((first|refine Ct ‹_› ?_|refine Cf ‹_› ?_|refine Ct rfl ?_|refine Cf rfl ?_|refine Bi rfl ?_|refine Bz rfl ?_|refine Lr ?_);conv=>whnf))
  refine CallQ_some (F_l1Has _ _ ho.roa.len) rfl rfl ?_
  ((conv=>whnf);repeat((first|refine Ct ‹_› ?_|refine Cf ‹_› ?_|refine Ct rfl ?_|refine Cf rfl ?_|refine Bi rfl ?_|refine Bz rfl ?_|refine Lr ?_);conv=>whnf))
  exact ⟨rfl, rfl, rfl⟩

theorem F_mRiver (m : Map) (h : WH m) (ho : m.Ok) (i d : Int) (i0 : 0 ≤ i) (i1 : i ≤ 1000) (h0 : 0 ≤ d) (h5 : d ≤ 5) : Fun E0 37 [.agg m.cs, vI i, vI d] [] (.v (vB (m.riv.contains (ed m i d)))) [] [] := by
  refine Fun_of_xc k37 rfl rfl (fun k q h => by cases h) ?_
  ((conv=>whnf);repeat((first|refine Ct ‹_› ?_|refine Cf ‹_› ?_|refine Ct rfl ?_|refine Cf rfl ?_|refine Bi rfl ?_|refine Bz rfl ?_|refine Lr ?_);conv=>whnf))
  refine CallQ_some (F_mEdge m h i d i0 i1 h0 h5) rfl rfl ?_
  ((conv=>whnf);repeat((first|refine Ct ‹_› ?_|refine Cf ‹_› ?_|refine Ct rfl ?_|refine Cf rfl ?_|refine Bi rfl ?_|refine Bz rfl ?_|refine Lr ?_);conv=>whnf))
  refine CallQ_some (F_l1Has _ _ ho.riv.len) rfl rfl ?_
  ((conv=>whnf);repeat((first|refine Ct ‹_› ?_|refine Cf ‹_› ?_|refine Ct rfl ?_|refine Cf rfl ?_|refine Bi rfl ?_|refine Bz rfl ?_|refine Lr ?_);conv=>whnf))
  exact ⟨rfl, rfl, rfl⟩

def wx (w : Int) (road : Bool) : Int := if road then w.tdiv 2 else w

theorem F_csWeather (w : Int) (b : Bool) (h0 : 0 ≤ w) (h2 : w ≤ 2) : Fun E0 36 [vI w, vB b] [] (.v (vI (wx w b))) [] [] := by
  refine Fun_of_xc k36 rfl rfl (fun k q h => by cases h) ?_
  ((conv=>whnf);repeat((first|refine Ct ‹_› ?_|refine Cf ‹_› ?_|refine Ct rfl ?_|refine Cf rfl ?_|refine Bi rfl ?_|refine Bz rfl ?_|refine Lr ?_);conv=>whnf))
  refine Cnd_i (fun g => ?_) (fun g => ?_)
  · subst g
    ((conv=>whnf);repeat((first|refine Ct ‹_› ?_|refine Cf ‹_› ?_|refine Ct rfl ?_|refine Cf rfl ?_|refine Bi rfl ?_|refine Bz rfl ?_|refine Lr ?_);conv=>whnf))
    refine ⟨?_, rfl, rfl⟩
    rw [wrapI (by rw [Int.tdiv_eq_ediv_of_nonneg h0]; omega)]; rfl
  · subst g
    ((conv=>whnf);repeat((first|refine Ct ‹_› ?_|refine Cf ‹_› ?_|refine Ct rfl ?_|refine Cf rfl ?_|refine Bi rfl ?_|refine Bz rfl ?_|refine Lr ?_);conv=>whnf))
    exact ⟨rfl, rfl, rfl⟩

theorem F_weatherCost (w : Int) (b : Bool) (h0 : 0 ≤ w) (h2 : w ≤ 2) : Fun E0 50 [vI w, vB b] [] (.v (vI (wx w b))) [] [] := by
  refine Fun_of_xc k50 rfl rfl (fun k q h => by cases h) ?_
  ((conv=>whnf);repeat((first|refine Ct ‹_› ?_|refine Cf ‹_› ?_|refine Ct rfl ?_|refine Cf rfl ?_|refine Bi rfl ?_|refine Bz rfl ?_|refine Lr ?_);conv=>whnf))
  refine Cnd_i (fun g => ?_) (fun g => ?_)
  · subst g
    ((conv=>whnf);repeat((first|refine Ct ‹_› ?_|refine Cf ‹_› ?_|refine Ct rfl ?_|refine Cf rfl ?_|refine Bi rfl ?_|refine Bz rfl ?_|refine Lr ?_);conv=>whnf))
    refine Cnd_i (fun g => ?_) (fun g => ?_)
    · have g := of_decide_eq_true g
      ((conv=>whnf);repeat((first|refine Ct ‹_› ?_|refine Cf ‹_› ?_|refine Ct rfl ?_|refine Cf rfl ?_|refine Bi rfl ?_|refine Bz rfl ?_|refine Lr ?_);conv=>whnf))
      refine ⟨?_, rfl, rfl⟩
      rw [wrapI (by omega)]
      have : w - 1 = wx w true := by show w - 1 = w.tdiv 2; rw [Int.tdiv_eq_ediv_of_nonneg h0]; omega
      rw [this]; rfl
    · have g := of_decide_eq_false g
      ((conv=>whnf);repeat((first|refine Ct ‹_› ?_|refine Cf ‹_› ?_|refine Ct rfl ?_|refine Cf rfl ?_|refine Bi rfl ?_|refine Bz rfl ?_|refine Lr ?_);conv=>whnf))
      refine ⟨?_, rfl, rfl⟩
      have : w = 0 := by omega
      subst this; rfl
  · subst g
    ((conv=>whnf);repeat((first|refine Ct ‹_› ?_|refine Cf ‹_› ?_|refine Ct rfl ?_|refine Cf rfl ?_|refine Bi rfl ?_|refine Bz rfl ?_|refine Lr ?_);conv=>whnf))
    exact ⟨rfl, rfl, rfl⟩

/-- the terrain of a hex -/
def terAt (b : Brd) (i : Int) : Ter := b.r.ter.getD (b.m.ter.getD i.toNat 0).toNat Ter.d

def costAt (b : Brd) (k i : Int) : Int := (terAt b i).cost.getD k.toNat 0

structure GB (b : Brd) : Prop where
  ok : b.Ok
  wh : WH b.m
  n : (b.m.ter.length : Int) = b.m.w * b.m.h
  t1 : 1 ≤ b.r.ter.length ∧ b.r.ter.length ≤ 6
  k1 : 1 ≤ b.r.knd.length ∧ b.r.knd.length ≤ 4
  ti : ∀ t ∈ b.m.ter, 0 ≤ t ∧ t ≤ (b.r.ter.length : Int) - 1
  ter : ∀ t ∈ b.r.ter, okTer t b.r.knd.length = true
  knd : ∀ k ∈ b.r.knd, okKnd k = true
  nums : numsOk b.r = true
  riv : edgesOk b.m b.m.riv = true
  roa : edgesOk b.m b.m.roa = true

theorem GB.of {b : Brd} (ho : b.Ok) (h : okBrd b = true) : GB b := by
  simp only [okBrd, okRul, okMap, Bool.and_eq_true, beq_iff_eq] at h
  obtain ⟨⟨⟨⟨⟨⟨a1, a2⟩, a3⟩, a4⟩, a5⟩, ⟨⟨⟨⟨⟨b1, b2⟩, b3⟩, b4⟩, b5⟩, b6⟩⟩, c1⟩ := h
  have w1 := of_decide_eq_true b1
  have w2 := of_decide_eq_true b2
  have r1 := of_decide_eq_true a1
  have r2 := of_decide_eq_true a2
  have q1 := of_decide_eq_true a3
  have q2 := of_decide_eq_true a4
  refine ⟨ho, ⟨w1.1, w1.2, w2.1, w2.2⟩, b3, by omega, by omega, fun t ht => ?_, fun t ht => ?_, fun t ht => ?_, a5, b5, b6⟩
  · exact of_decide_eq_true (List.all_eq_true.1 c1 t ht)
  · obtain ⟨j, hj⟩ := List.mem_iff_getElem?.1 ht
    have hl : j < b.r.ter.length := (List.getElem?_eq_some_iff.1 hj).1
    have := (q1 j hl).1
    have e : b.r.ter[j] = t := by simpa [hl] using hj
    simpa [hl, e] using this
  · obtain ⟨j, hj⟩ := List.mem_iff_getElem?.1 ht
    have hl : j < b.r.knd.length := (List.getElem?_eq_some_iff.1 hj).1
    have := (q2 j hl).1
    have e : b.r.knd[j] = t := by simpa [hl] using hj
    simpa [hl, e] using this

theorem GB.at {b : Brd} (h : GB b) {i : Int} (h0 : 0 ≤ i) (h1 : i < b.m.ter.length) : 0 ≤ b.m.ter.getD i.toNat 0 ∧ b.m.ter.getD i.toNat 0 < b.r.ter.length := by
  have := h.ti _ (getD_memT (d := 0) h0 h1)
  omega

theorem GB.terAt {b : Brd} (h : GB b) {i : Int} (h0 : 0 ≤ i) (h1 : i < b.m.ter.length) : terAt b i ∈ b.r.ter := getD_memT (h.at h0 h1).1 (h.at h0 h1).2

theorem F_sizeOf (b : Brd) : Fun E0 22 [.agg b.cs] [] (.v (vI b.m.ter.length)) [] [] := by
  refine Fun_of_xc k22 rfl rfl (fun k q h => by cases h) ?_
  ((conv=>whnf);repeat((first|refine Ct ‹_› ?_|refine Cf ‹_› ?_|refine Ct rfl ?_|refine Cf rfl ?_|refine Bi rfl ?_|refine Bz rfl ?_|refine Lr ?_);conv=>whnf))
  exact ⟨rfl, rfl, rfl⟩

theorem F_bTerrain (b : Brd) (h : GB b) (i : Int) (h0 : 0 ≤ i) (h1 : i < b.m.ter.length) : Fun E0 60 [.agg b.cs, vI i] [] (.v (.agg (terAt b i).cs)) [] [] := by
  have ha := h.at h0 h1
  refine Fun_of_xc k60 rfl rfl (fun k q h => by cases h) ?_
  ((conv=>whnf);repeat((first|refine Ct ‹_› ?_|refine Cf ‹_› ?_|refine Ct rfl ?_|refine Cf rfl ?_|refine Bi rfl ?_|refine Bz rfl ?_|refine Lr ?_);conv=>whnf))
  refine Bnd_i ⟨h0, h1⟩ ?_
  ((conv=>whnf);repeat((first|refine Ct ‹_› ?_|refine Cf ‹_› ?_|refine Ct rfl ?_|refine Cf rfl ?_|refine Bi rfl ?_|refine Bz rfl ?_|refine Lr ?_);conv=>whnf))
  refine Bnd_i ha ?_
  ((conv=>whnf);repeat((first|refine Ct ‹_› ?_|refine Cf ‹_› ?_|refine Ct rfl ?_|refine Cf rfl ?_|refine Bi rfl ?_|refine Bz rfl ?_|refine Lr ?_);conv=>whnf))
  exact ⟨rfl, rfl, rfl⟩

theorem F_terrainAt (b : Brd) (h : GB b) (i : Int) (h0 : 0 ≤ i) (h1 : i < b.m.ter.length) : Fun E0 70 [.agg b.cs, vI i] [] (.v (.agg (terAt b i).cs)) [] [] := by
  have ha := h.at h0 h1
  refine Fun_of_xc k70 rfl rfl (fun k q h => by cases h) ?_
  ((conv=>whnf);repeat((first|refine Ct ‹_› ?_|refine Cf ‹_› ?_|refine Ct rfl ?_|refine Cf rfl ?_|refine Bi rfl ?_|refine Bz rfl ?_|refine Lr ?_);conv=>whnf))
  refine Bnd_i ⟨h0, h1⟩ ?_
  ((conv=>whnf);repeat((first|refine Ct ‹_› ?_|refine Cf ‹_› ?_|refine Ct rfl ?_|refine Cf rfl ?_|refine Bi rfl ?_|refine Bz rfl ?_|refine Lr ?_);conv=>whnf))
  refine Bnd_i ha ?_
  ((conv=>whnf);repeat((first|refine Ct ‹_› ?_|refine Cf ‹_› ?_|refine Ct rfl ?_|refine Cf rfl ?_|refine Bi rfl ?_|refine Bz rfl ?_|refine Lr ?_);conv=>whnf))
  exact ⟨rfl, rfl, rfl⟩

theorem okTer_len {t : Ter} {k : Int} (h : okTer t k = true) : (t.cost.length : Int) = k := by
  simp only [okTer, Bool.and_eq_true, beq_iff_eq] at h
  exact h.1.1.1.2

theorem F_bCost (b : Brd) (h : GB b) (k i : Int) (h0 : 0 ≤ i) (h1 : i < b.m.ter.length) (k0 : 0 ≤ k) (k1 : k < b.r.knd.length) : Fun E0 34 [.agg b.cs, vI k, vI i] [] (.v (vI (costAt b k i))) [] [] := by
  have hl := okTer_len (h.ter _ (h.terAt h0 h1))
  refine Fun_of_xc k34 rfl rfl (fun k q h => by cases h) ?_
  ((conv=>whnf);repeat((first|refine Ct ‹_› ?_|refine Cf ‹_› ?_|refine Ct rfl ?_|refine Cf rfl ?_|refine Bi rfl ?_|refine Bz rfl ?_|refine Lr ?_);conv=>whnf))
  refine CallQ_some (F_bTerrain b h i h0 h1) rfl rfl ?_
  ((conv=>whnf);repeat((first|refine Ct ‹_› ?_|refine Cf ‹_› ?_|refine Ct rfl ?_|refine Cf rfl ?_|refine Bi rfl ?_|refine Bz rfl ?_|refine Lr ?_);conv=>whnf))
  refine Bnd_i ⟨k0, by omega⟩ ?_
  ((conv=>whnf);repeat((first|refine Ct ‹_› ?_|refine Cf ‹_› ?_|refine Ct rfl ?_|refine Cf rfl ?_|refine Bi rfl ?_|refine Bz rfl ?_|refine Lr ?_);conv=>whnf))
  exact ⟨rfl, rfl, rfl⟩

theorem F_enterCost (b : Brd) (h : GB b) (k i : Int) (h0 : 0 ≤ i) (h1 : i < b.m.ter.length) (k0 : 0 ≤ k) (k1 : k < b.r.knd.length) : Fun E0 48 [.agg b.cs, vI k, vI i] [] (.v (vI (costAt b k i))) [] [] := by
  have hl := okTer_len (h.ter _ (h.terAt h0 h1))
  refine Fun_of_xc k48 rfl rfl (fun k q h => by cases h) ?_
  ((conv=>whnf);repeat((first|refine Ct ‹_› ?_|refine Cf ‹_› ?_|refine Ct rfl ?_|refine Cf rfl ?_|refine Bi rfl ?_|refine Bz rfl ?_|refine Lr ?_);conv=>whnf))
  refine CallQ_some (F_terrainAt b h i h0 h1) rfl rfl ?_
  ((conv=>whnf);repeat((first|refine Ct ‹_› ?_|refine Cf ‹_› ?_|refine Ct rfl ?_|refine Cf rfl ?_|refine Bi rfl ?_|refine Bz rfl ?_|refine Lr ?_);conv=>whnf))
  refine Bnd_i ⟨k0, by omega⟩ ?_
  ((conv=>whnf);repeat((first|refine Ct ‹_› ?_|refine Cf ‹_› ?_|refine Ct rfl ?_|refine Cf rfl ?_|refine Bi rfl ?_|refine Bz rfl ?_|refine Lr ?_);conv=>whnf))
  exact ⟨rfl, rfl, rfl⟩

theorem F_bAt (b : Brd) (ho : b.Ok) (k i : Int) : Fun E0 30 [.agg b.cs, vI k, vI i] [] (.v (vB (okBrd b && In k 0 (b.r.knd.length - 1) && In i 0 (b.m.w * b.m.h - 1)))) [] [] := by
  have hlk : b.r.knd.length ≤ 9223372036854775807 := ho.r.lknd
  refine Fun_of_xc k30 rfl rfl (fun k q h => by cases h) ?_
  ((conv=>whnf);repeat((first|refine Ct ‹_› ?_|refine Cf ‹_› ?_|refine Ct rfl ?_|refine Cf rfl ?_|refine Bi rfl ?_|refine Bz rfl ?_|refine Lr ?_);conv=>whnf))
  refine CallQ_some (F_bGood b ho) rfl rfl ?_
  ((conv=>whnf);repeat((first|refine Ct ‹_› ?_|refine Cf ‹_› ?_|refine Ct rfl ?_|refine Cf rfl ?_|refine Bi rfl ?_|refine Bz rfl ?_|refine Lr ?_);conv=>whnf))
  refine Cnd_i (fun e1 => ?_) (fun g => ?_)
  · have hg := GB.of ho e1
    have hs := hg.wh.mul
    ((conv=>whnf);repeat((first|refine Ct ‹_› ?_|refine Cf ‹_› ?_|refine Ct rfl ?_|refine Cf rfl ?_|refine Bi rfl ?_|refine Bz rfl ?_|refine Lr ?_);conv=>whnf))
    refine CallQ_some (F_l1In _ _ _) rfl rfl ?_
    ((conv=>whnf);repeat((first|refine Ct ‹_› ?_|refine Cf ‹_› ?_|refine Ct rfl ?_|refine Cf rfl ?_|refine Bi rfl ?_|refine Bz rfl ?_|refine Lr ?_);conv=>whnf))
    rw [wrapI (n := (b.r.knd.length : Int) - 1) (by omega)]
    refine Cnd_i (fun e2 => ?_) (fun g => ?_)
    · ((conv=>whnf);repeat((first|refine Ct ‹_› ?_|refine Cf ‹_› ?_|refine Ct rfl ?_|refine Cf rfl ?_|refine Bi rfl ?_|refine Bz rfl ?_|refine Lr ?_);conv=>whnf))
      refine CallQ_some (F_mSize b.m hg.wh) rfl rfl ?_
      ((conv=>whnf);repeat((first|refine Ct ‹_› ?_|refine Cf ‹_› ?_|refine Ct rfl ?_|refine Cf rfl ?_|refine Bi rfl ?_|refine Bz rfl ?_|refine Lr ?_);conv=>whnf))
      refine CallQ_some (F_l1In _ _ _) rfl rfl ?_
      ((conv=>whnf);repeat((first|refine Ct ‹_› ?_|refine Cf ‹_› ?_|refine Ct rfl ?_|refine Cf rfl ?_|refine Bi rfl ?_|refine Bz rfl ?_|refine Lr ?_);conv=>whnf))
      refine ⟨?_, rfl, rfl⟩
      rw [wrapI (n := b.m.w * b.m.h - 1) (by omega)]
      simp only [e1, e2, Bool.true_and]
      rfl
    · ((conv=>whnf);repeat((first|refine Ct ‹_› ?_|refine Cf ‹_› ?_|refine Ct rfl ?_|refine Cf rfl ?_|refine Bi rfl ?_|refine Bz rfl ?_|refine Lr ?_);conv=>whnf))
      refine ⟨?_, rfl, rfl⟩
      simp only [g, Bool.and_false, Bool.false_and]
      rfl
  · ((conv=>whnf);repeat((first|refine Ct ‹_› ?_|refine Cf ‹_› ?_|refine Ct rfl ?_|refine Cf rfl ?_|refine Bi rfl ?_|refine Bz rfl ?_|refine Lr ?_);conv=>whnf))
    refine ⟨?_, rfl, rfl⟩
    simp only [g, Bool.and_false, Bool.false_and]
    rfl

theorem GB.cost {b : Brd} (h : GB b) {k i : Int} (h0 : 0 ≤ i) (h1 : i < b.m.ter.length) (k0 : 0 ≤ k) (k1 : k < b.r.knd.length) : 0 ≤ costAt b k i ∧ costAt b k i ≤ 9 := by
  have ho := h.ter _ (h.terAt h0 h1)
  have hl := okTer_len ho
  simp only [okTer, Bool.and_eq_true] at ho
  have hc := List.all_eq_true.1 ho.2 (costAt b k i) (getD_memT (d := 0) k0 (by omega))
  exact of_decide_eq_true hc

theorem GB.road {b : Brd} (h : GB b) : (1 ≤ b.r.road ∧ b.r.road ≤ 9) ∧ 0 ≤ b.r.river ∧ b.r.river ≤ 9 := by
  have hn := h.nums
  simp only [numsOk, Bool.and_eq_true] at hn
  exact ⟨of_decide_eq_true hn.1.1.2, of_decide_eq_true hn.1.1.1.2⟩

theorem wx_b {w : Int} {r : Bool} (h0 : 0 ≤ w) (h2 : w ≤ 2) : 0 ≤ wx w r ∧ wx w r ≤ 2 := by
  unfold wx
  cases r with
  | true => simp only [if_true]; rw [Int.tdiv_eq_ediv_of_nonneg h0]; omega
  | false => simp only [Bool.false_eq_true, if_false]; omega

def stepC (b : Brd) (k i d w : Int) : Int :=
  if nx b.m i d < 0 then 0 else if costAt b k (nx b.m i d) = 0 then 0 else
  if b.m.roa.contains (ed b.m i d) then b.r.road + wx w true else
  if b.m.riv.contains (ed b.m i d) then costAt b k (nx b.m i d) + wx w false + b.r.river else costAt b k (nx b.m i d) + wx w false
end Go.Proofs.YtjnpnpkjmlihdaaDoor.Ab
