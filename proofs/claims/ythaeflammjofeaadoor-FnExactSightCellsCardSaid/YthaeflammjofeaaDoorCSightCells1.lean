/- Contracts of the functions that FnExactSightCells reaches, by the abstract machine (part 1).
   Conditions: none. -/
import Derived.Test.YthaeflammjofeaaDoorCSightCells0
set_option linter.unusedVariables false
set_option linter.unusedSimpArgs false
namespace Go.Proofs.YthaeflammjofeaaDoor.Ab
open Go Go.RowKit
attribute [local irreducible] Cnd Bnd Rw CallQ CallR Bts Isn Lc WLoop
set_option maxRecDepth 100000
set_option maxHeartbeats 1000000
theorem szT_b {t : Ter} {left : Int} (h0 : 0 ≤ left) (h1 : left ≤ 1048576) : szT t left ≤ 1048576 ∧ (szT t left < 0 → szT t left = -1) := by
  unfold szT
  by_cases g : left - t.name.size < 0
  · rw [if_pos g]; exact ⟨by omega, fun _ => rfl⟩
  · rw [if_neg g]
    have := sub1_b (left := left - t.name.size) (n := t.cost.length) (by omega) (by omega) (by omega)
    omega

theorem szK_b {t : Knd} {left : Int} (h0 : 0 ≤ left) (h1 : left ≤ 1048576) : szK t left ≤ 1048576 ∧ (szK t left < 0 → szK t left = -1) := by
  unfold szK
  have := sub1_b (left := left) (n := t.name.size) h0 h1 (by omega)
  omega

theorem F_szTerrainS (l : List Ter) (hl : l.length ≤ maxLen) (ho : ∀ t ∈ l, t.Ok) (left : Int) (h0 : 0 ≤ left) (h1 : left ≤ 1048576) : Fun E0 58 [.one (roT l), vI left] [] (.v (vI (szS szT l left))) [] [] := by
  have hl : l.length ≤ 9223372036854775807 := hl
  refine Fun_of_xc k58 rfl rfl (fun k q h => by cases h) ?_
  ((conv=>whnf);repeat((first|refine Ct ‹_› ?_|refine Cf ‹_› ?_|refine Ct rfl ?_|refine Cf rfl ?_|refine Bi rfl ?_|refine Bz rfl ?_|refine Lr ?_);conv=>whnf))
  rw [wrapI (n := left - l.length) (by omega)]
  refine Cnd_i (fun g => ?_) (fun g => ?_)
  · have g := of_decide_eq_true g
    ((conv=>whnf);repeat((first|refine Ct ‹_› ?_|refine Cf ‹_› ?_|refine Ct rfl ?_|refine Cf rfl ?_|refine Bi rfl ?_|refine Bz rfl ?_|refine Lr ?_);conv=>whnf))
    refine ⟨?_, rfl, rfl⟩
    rw [szS, if_pos g]; rfl
  have g := of_decide_eq_false g
  rw [szS, if_neg g]
  ((conv=>whnf);repeat((first|refine Ct ‹_› ?_|refine Cf ‹_› ?_|refine Ct rfl ?_|refine Cf rfl ?_|refine Bi rfl ?_|refine Bz rfl ?_|refine Lr ?_);conv=>whnf))
  refine WLoop_v ⟨[0, 1, 5], [], []⟩ (fun p : Int × Int => hdS 27 [(0, .v (.one (roT l))), (1, .v (vI p.2)), (5, .v (vI p.1))] [] [])
    (fun k p => 0 ≤ p.1 ∧ p.1 + k = l.length ∧ (0 ≤ p.2 ∧ p.2 ≤ 1048576) ∧ szL szT l (left - l.length) = szL szT (l.drop p.1.toNat) p.2) l.length (0, left - l.length) rfl ⟨by omega, by omega, ⟨by omega, by omega⟩, rfl⟩ ?_
  rintro k ⟨i, x⟩ ⟨a1, a2, ⟨a3, a4⟩, a5⟩
  simp only at a1 a2 a3 a4 a5
  ((conv=>whnf);repeat((first|refine Ct ‹_› ?_|refine Cf ‹_› ?_|refine Ct rfl ?_|refine Cf rfl ?_|refine Bi rfl ?_|refine Bz rfl ?_|refine Lr ?_);conv=>whnf))
  refine Cnd_i (fun h => ?_) (fun h => ?_)
  · have hi' : i < l.length := of_decide_eq_true h
    have hb := szT_b (t := l.getD i.toNat Ter.d) a3 a4
    rw [drop_get (d := Ter.d) a1 hi'] at a5
    ((conv=>whnf);repeat((first|refine Ct ‹_› ?_|refine Cf ‹_› ?_|refine Ct rfl ?_|refine Cf rfl ?_|refine Bi rfl ?_|refine Bz rfl ?_|refine Lr ?_);conv=>whnf))
    refine Bnd_i ⟨a1, hi'⟩ ?_
    ((conv=>whnf);repeat((first|refine Ct ‹_› ?_|refine Cf ‹_› ?_|refine Ct rfl ?_|refine Cf rfl ?_|refine Bi rfl ?_|refine Bz rfl ?_|refine Lr ?_);conv=>whnf))
    refine CallQ_some (F_szTerrain (l.getD i.toNat Ter.d) (ho _ (getD_memT a1 hi')) x a3 a4) rfl rfl ?_
    ((conv=>whnf);repeat((first|refine Ct ‹_› ?_|refine Cf ‹_› ?_|refine Ct rfl ?_|refine Cf rfl ?_|refine Bi rfl ?_|refine Bz rfl ?_|refine Lr ?_);conv=>whnf))
    refine Cnd_i (fun g2 => ?_) (fun g2 => ?_)
    · have g2 := of_decide_eq_true g2
      ((conv=>whnf);repeat((first|refine Ct ‹_› ?_|refine Cf ‹_› ?_|refine Ct rfl ?_|refine Cf rfl ?_|refine Bi rfl ?_|refine Bz rfl ?_|refine Lr ?_);conv=>whnf))
      refine ⟨?_, rfl, rfl⟩
      rw [a5, szL, if_pos g2]; rfl
    · have g2 := of_decide_eq_false g2
      ((conv=>whnf);repeat((first|refine Ct ‹_› ?_|refine Cf ‹_› ?_|refine Ct rfl ?_|refine Cf rfl ?_|refine Bi rfl ?_|refine Bz rfl ?_|refine Lr ?_);conv=>whnf))
      refine ⟨k - 1, (IntKind.i64.wrap (i + 1), szT (l.getD i.toNat Ter.d) x), rfl, ?_, ?_, ?_, ⟨?_, hb.1⟩, ?_⟩
      · omega
      · simp only; rw [wrapI (by omega)]; omega
      · simp only; rw [wrapI (by omega)]; omega
      · simp only; omega
      · simp only; rw [wrapI (by omega), a5, szL, if_neg g2]
  · have hi' := of_decide_eq_false h
    ((conv=>whnf);repeat((first|refine Ct ‹_› ?_|refine Cf ‹_› ?_|refine Ct rfl ?_|refine Cf rfl ?_|refine Bi rfl ?_|refine Bz rfl ?_|refine Lr ?_);conv=>whnf))
    refine ⟨?_, rfl, rfl⟩
    have : l.drop i.toNat = [] := by rw [List.drop_eq_nil_iff]; omega
    rw [a5, this]; rfl

theorem F_szKindS (l : List Knd) (hl : l.length ≤ maxLen) (ho : ∀ t ∈ l, t.Ok) (left : Int) (h0 : 0 ≤ left) (h1 : left ≤ 1048576) : Fun E0 59 [.one (roK l), vI left] [] (.v (vI (szS szK l left))) [] [] := by
  have hl : l.length ≤ 9223372036854775807 := hl
  refine Fun_of_xc k59 rfl rfl (fun k q h => by cases h) ?_
  ((conv=>whnf);repeat((first|refine Ct ‹_› ?_|refine Cf ‹_› ?_|refine Ct rfl ?_|refine Cf rfl ?_|refine Bi rfl ?_|refine Bz rfl ?_|refine Lr ?_);conv=>whnf))
  rw [wrapI (n := left - l.length) (by omega)]
  refine Cnd_i (fun g => ?_) (fun g => ?_)
  · have g := of_decide_eq_true g
    ((conv=>whnf);repeat((first|refine Ct ‹_› ?_|refine Cf ‹_› ?_|refine Ct rfl ?_|refine Cf rfl ?_|refine Bi rfl ?_|refine Bz rfl ?_|refine Lr ?_);conv=>whnf))
    refine ⟨?_, rfl, rfl⟩
    rw [szS, if_pos g]; rfl
  have g := of_decide_eq_false g
  rw [szS, if_neg g]
  ((conv=>whnf);repeat((first|refine Ct ‹_› ?_|refine Cf ‹_› ?_|refine Ct rfl ?_|refine Cf rfl ?_|refine Bi rfl ?_|refine Bz rfl ?_|refine Lr ?_);conv=>whnf))
  refine WLoop_v ⟨[0, 1, 5], [], []⟩ (fun p : Int × Int => hdS 27 [(0, .v (.one (roK l))), (1, .v (vI p.2)), (5, .v (vI p.1))] [] [])
    (fun k p => 0 ≤ p.1 ∧ p.1 + k = l.length ∧ (0 ≤ p.2 ∧ p.2 ≤ 1048576) ∧ szL szK l (left - l.length) = szL szK (l.drop p.1.toNat) p.2) l.length (0, left - l.length) rfl ⟨by omega, by omega, ⟨by omega, by omega⟩, rfl⟩ ?_
  rintro k ⟨i, x⟩ ⟨a1, a2, ⟨a3, a4⟩, a5⟩
  simp only at a1 a2 a3 a4 a5
  ((conv=>whnf);repeat((first|refine Ct ‹_› ?_|refine Cf ‹_› ?_|refine Ct rfl ?_|refine Cf rfl ?_|refine Bi rfl ?_|refine Bz rfl ?_|refine Lr ?_);conv=>whnf))
  refine Cnd_i (fun h => ?_) (fun h => ?_)
  · have hi' : i < l.length := of_decide_eq_true h
    have hb := szK_b (t := l.getD i.toNat Knd.d) a3 a4
    rw [drop_get (d := Knd.d) a1 hi'] at a5
    ((conv=>whnf);repeat((first|refine Ct ‹_› ?_|refine Cf ‹_› ?_|refine Ct rfl ?_|refine Cf rfl ?_|refine Bi rfl ?_|refine Bz rfl ?_|refine Lr ?_);conv=>whnf))
    refine Bnd_i ⟨a1, hi'⟩ ?_
    ((conv=>whnf);repeat((first|refine Ct ‹_› ?_|refine Cf ‹_› ?_|refine Ct rfl ?_|refine Cf rfl ?_|refine Bi rfl ?_|refine Bz rfl ?_|refine Lr ?_);conv=>whnf))
    refine CallQ_some (F_szKind (l.getD i.toNat Knd.d) (ho _ (getD_memT a1 hi')) x a3 a4) rfl rfl ?_
    ((conv=>whnf);repeat((first|refine Ct ‹_› ?_|refine Cf ‹_› ?_|refine Ct rfl ?_|refine Cf rfl ?_|refine Bi rfl ?_|refine Bz rfl ?_|refine Lr ?_);conv=>whnf))
    refine Cnd_i (fun g2 => ?_) (fun g2 => ?_)
    · have g2 := of_decide_eq_true g2
      ((conv=>whnf);repeat((first|refine Ct ‹_› ?_|refine Cf ‹_› ?_|refine Ct rfl ?_|refine Cf rfl ?_|refine Bi rfl ?_|refine Bz rfl ?_|refine Lr ?_);conv=>whnf))
      refine ⟨?_, rfl, rfl⟩
      rw [a5, szL, if_pos g2]; rfl
    · have g2 := of_decide_eq_false g2
      ((conv=>whnf);repeat((first|refine Ct ‹_› ?_|refine Cf ‹_› ?_|refine Ct rfl ?_|refine Cf rfl ?_|refine Bi rfl ?_|refine Bz rfl ?_|refine Lr ?_);conv=>whnf))
      refine ⟨k - 1, (IntKind.i64.wrap (i + 1), szK (l.getD i.toNat Knd.d) x), rfl, ?_, ?_, ?_, ⟨?_, hb.1⟩, ?_⟩
      · omega
      · simp only; rw [wrapI (by omega)]; omega
      · simp only; rw [wrapI (by omega)]; omega
      · simp only; omega
      · simp only; rw [wrapI (by omega), a5, szL, if_neg g2]
  · have hi' := of_decide_eq_false h
    ((conv=>whnf);repeat((first|refine Ct ‹_› ?_|refine Cf ‹_› ?_|refine Ct rfl ?_|refine Cf rfl ?_|refine Bi rfl ?_|refine Bz rfl ?_|refine Lr ?_);conv=>whnf))
    refine ⟨?_, rfl, rfl⟩
    have : l.drop i.toNat = [] := by rw [List.drop_eq_nil_iff]; omega
    rw [a5, this]; rfl

theorem szL_b {α : Type} {f : α → Int → Int} (hf : ∀ a x, 0 ≤ x → x ≤ 1048576 → f a x ≤ 1048576) : ∀ (l : List α) (x : Int), 0 ≤ x → x ≤ 1048576 → szL f l x ≤ 1048576
  | [], _, _, h => h
  | a :: l, x, h0, h1 => by
    unfold szL
    by_cases g : f a x < 0
    · rw [if_pos g]; omega
    · rw [if_neg g]; exact szL_b hf l _ (by omega) (hf a x h0 h1)

theorem szS_b {α : Type} {f : α → Int → Int} (hf : ∀ a x, 0 ≤ x → x ≤ 1048576 → f a x ≤ 1048576) (l : List α) {x : Int} (h0 : 0 ≤ x) (h1 : x ≤ 1048576) : szS f l x ≤ 1048576 := by
  unfold szS
  by_cases g : x - l.length < 0
  · rw [if_pos g]; omega
  · rw [if_neg g]; exact szL_b hf l _ (by omega) (by omega)

def szR (r : Rul) (left : Int) : Int := if szS szT r.ter left < 0 then -1 else if szS szK r.knd (szS szT r.ter left) < 0 then -1 else szS szK r.knd (szS szT r.ter left)

theorem F_szRules (r : Rul) (ho : r.Ok) (left : Int) (h0 : 0 ≤ left) (h1 : left ≤ 1048576) : Fun E0 29 [.agg r.cs, vI left] [] (.v (vI (szR r left))) [] [] := by
  have b1 := szS_b (f := szT) (fun t x a b => (szT_b a b).1) r.ter h0 h1
  refine Fun_of_xc k29 rfl rfl (fun k q h => by cases h) ?_
  ((conv=>whnf);repeat((first|refine Ct ‹_› ?_|refine Cf ‹_› ?_|refine Ct rfl ?_|refine Cf rfl ?_|refine Bi rfl ?_|refine Bz rfl ?_|refine Lr ?_);conv=>whnf))
  refine CallQ_some (F_szTerrainS r.ter ho.lter ho.ter left h0 h1) rfl rfl ?_
  ((conv=>whnf);repeat((first|refine Ct ‹_› ?_|refine Cf ‹_› ?_|refine Ct rfl ?_|refine Cf rfl ?_|refine Bi rfl ?_|refine Bz rfl ?_|refine Lr ?_);conv=>whnf))
  refine Cnd_i (fun g => ?_) (fun g => ?_)
  · have g := of_decide_eq_true g
    ((conv=>whnf);repeat((first|refine Ct ‹_› ?_|refine Cf ‹_› ?_|refine Ct rfl ?_|refine Cf rfl ?_|refine Bi rfl ?_|refine Bz rfl ?_|refine Lr ?_);conv=>whnf))
    refine ⟨?_, rfl, rfl⟩
    rw [szR, if_pos g]; rfl
  have g := of_decide_eq_false g
  ((conv=>whnf);repeat((first|refine Ct ‹_› ?_|refine Cf ‹_› ?_|refine Ct rfl ?_|refine Cf rfl ?_|refine Bi rfl ?_|refine Bz rfl ?_|refine Lr ?_);conv=>whnf))
  refine CallQ_some (F_szKindS r.knd ho.lknd ho.knd _ (by omega) b1) rfl rfl ?_
  ((conv=>whnf);repeat((first|refine Ct ‹_› ?_|refine Cf ‹_› ?_|refine Ct rfl ?_|refine Cf rfl ?_|refine Bi rfl ?_|refine Bz rfl ?_|refine Lr ?_);conv=>whnf))
  refine Cnd_i (fun g2 => ?_) (fun g2 => ?_)
  · have g2 := of_decide_eq_true g2
    ((conv=>whnf);repeat((first|refine Ct ‹_› ?_|refine Cf ‹_› ?_|refine Ct rfl ?_|refine Cf rfl ?_|refine Bi rfl ?_|refine Bz rfl ?_|refine Lr ?_);conv=>whnf))
    refine ⟨?_, rfl, rfl⟩
    rw [szR, if_neg g, if_pos g2]; rfl
  · have g2 := of_decide_eq_false g2
    ((conv=>whnf);repeat((first|refine Ct ‹_› ?_|refine Cf ‹_› ?_|refine Ct rfl ?_|refine Cf rfl ?_|refine Bi rfl ?_|refine Bz rfl ?_|refine Lr ?_);conv=>whnf))
    refine ⟨?_, rfl, rfl⟩
    rw [szR, if_neg g, if_neg g2]; rfl

def szM (m : Map) (left : Int) : Int := if sub1 left m.ter.length < 0 then -1 else if sub1 (sub1 left m.ter.length) m.riv.length < 0 then -1 else sub1 (sub1 (sub1 left m.ter.length) m.riv.length) m.roa.length

theorem F_szMap (m : Map) (ho : m.Ok) (left : Int) (h0 : 0 ≤ left) (h1 : left ≤ 1048576) : Fun E0 30 [.agg m.cs, vI left] [] (.v (vI (szM m left))) [] [] := by
  have b1 := sub1_b (n := m.ter.length) h0 h1 (by omega)
  refine Fun_of_xc k30 rfl rfl (fun k q h => by cases h) ?_
  ((conv=>whnf);repeat((first|refine Ct ‹_› ?_|refine Cf ‹_› ?_|refine Ct rfl ?_|refine Cf rfl ?_|refine Bi rfl ?_|refine Bz rfl ?_|refine Lr ?_);conv=>whnf))
  refine CallQ_some (F_szIntS m.ter left ho.ter.len h0 h1) rfl rfl ?_
  ((conv=>whnf);repeat((first|refine Ct ‹_› ?_|refine Cf ‹_› ?_|refine Ct rfl ?_|refine Cf rfl ?_|refine Bi rfl ?_|refine Bz rfl ?_|refine Lr ?_);conv=>whnf))
  refine Cnd_i (fun g => ?_) (fun g => ?_)
  · have g := of_decide_eq_true g
    ((conv=>whnf);repeat((first|refine Ct ‹_› ?_|refine Cf ‹_› ?_|refine Ct rfl ?_|refine Cf rfl ?_|refine Bi rfl ?_|refine Bz rfl ?_|refine Lr ?_);conv=>whnf))
    refine ⟨?_, rfl, rfl⟩
    rw [szM, if_pos g]; rfl
  have g := of_decide_eq_false g
  have b2 := sub1_b (left := sub1 left m.ter.length) (n := m.riv.length) (by omega) (by omega) (by omega)
  ((conv=>whnf);repeat((first|refine Ct ‹_› ?_|refine Cf ‹_› ?_|refine Ct rfl ?_|refine Cf rfl ?_|refine Bi rfl ?_|refine Bz rfl ?_|refine Lr ?_);conv=>whnf))
  refine CallQ_some (F_szIntS m.riv _ ho.riv.len (by omega) (by omega)) rfl rfl ?_
  ((conv=>whnf);repeat((first|refine Ct ‹_› ?_|refine Cf ‹_› ?_|refine Ct rfl ?_|refine Cf rfl ?_|refine Bi rfl ?_|refine Bz rfl ?_|refine Lr ?_);conv=>whnf))
  refine Cnd_i (fun g2 => ?_) (fun g2 => ?_)
  · have g2 := of_decide_eq_true g2
    ((conv=>whnf);repeat((first|refine Ct ‹_› ?_|refine Cf ‹_› ?_|refine Ct rfl ?_|refine Cf rfl ?_|refine Bi rfl ?_|refine Bz rfl ?_|refine Lr ?_);conv=>whnf))
    refine ⟨?_, rfl, rfl⟩
    rw [szM, if_neg g, if_pos g2]; rfl
  have g2 := of_decide_eq_false g2
  have b3 := sub1_b (left := sub1 (sub1 left m.ter.length) m.riv.length) (n := m.roa.length) (by omega) (by omega) (by omega)
  ((conv=>whnf);repeat((first|refine Ct ‹_› ?_|refine Cf ‹_› ?_|refine Ct rfl ?_|refine Cf rfl ?_|refine Bi rfl ?_|refine Bz rfl ?_|refine Lr ?_);conv=>whnf))
  refine CallQ_some (F_szIntS m.roa _ ho.roa.len (by omega) (by omega)) rfl rfl ?_
  ((conv=>whnf);repeat((first|refine Ct ‹_› ?_|refine Cf ‹_› ?_|refine Ct rfl ?_|refine Cf rfl ?_|refine Bi rfl ?_|refine Bz rfl ?_|refine Lr ?_);conv=>whnf))
  refine Cnd_i (fun g3 => ?_) (fun g3 => ?_)
  · have g3 := of_decide_eq_true g3
    ((conv=>whnf);repeat((first|refine Ct ‹_› ?_|refine Cf ‹_› ?_|refine Ct rfl ?_|refine Cf rfl ?_|refine Bi rfl ?_|refine Bz rfl ?_|refine Lr ?_);conv=>whnf))
    refine ⟨?_, rfl, rfl⟩
    have : sub1 (sub1 (sub1 left m.ter.length) m.riv.length) m.roa.length = -1 := by omega
    rw [szM, if_neg g, if_neg g2, this]; rfl
  · ((conv=>whnf);repeat((first|refine Ct ‹_› ?_|refine Cf ‹_› ?_|refine Ct rfl ?_|refine Cf rfl ?_|refine Bi rfl ?_|refine Bz rfl ?_|refine Lr ?_);conv=>whnf))
    refine ⟨?_, rfl, rfl⟩
    rw [szM, if_neg g, if_neg g2]; rfl

theorem szR_b {r : Rul} {left : Int} (h0 : 0 ≤ left) (h1 : left ≤ 1048576) : szR r left ≤ 1048576 := by
  have b1 := szS_b (f := szT) (fun t x a b => (szT_b a b).1) r.ter h0 h1
  unfold szR
  by_cases g : szS szT r.ter left < 0
  · rw [if_pos g]; omega
  · rw [if_neg g]
    have b2 := szS_b (f := szK) (fun t x a b => (szK_b a b).1) r.knd (x := szS szT r.ter left) (by omega) b1
    by_cases g2 : szS szK r.knd (szS szT r.ter left) < 0
    · rw [if_pos g2]; omega
    · rw [if_neg g2]; exact b2

def szB (b : Brd) (left : Int) : Int := if szR b.r left < 0 then -1 else if szM b.m (szR b.r left) < 0 then -1 else szM b.m (szR b.r left)

theorem F_szBoard (b : Brd) (ho : b.Ok) (left : Int) (h0 : 0 ≤ left) (h1 : left ≤ 1048576) : Fun E0 7 [.agg b.cs, vI left] [] (.v (vI (szB b left))) [] [] := by
  have b1 := szR_b (r := b.r) h0 h1
  refine Fun_of_xc k7 rfl rfl (fun k q h => by cases h) ?_
  ((conv=>whnf);repeat((first|refine Ct ‹_› ?_|refine Cf ‹_› ?_|refine Ct rfl ?_|refine Cf rfl ?_|refine Bi rfl ?_|refine Bz rfl ?_|refine Lr ?_);conv=>whnf))
  refine CallQ_some (F_szRules b.r ho.r left h0 h1) rfl rfl ?_
  ((conv=>whnf);repeat((first|refine Ct ‹_› ?_|refine Cf ‹_› ?_|refine Ct rfl ?_|refine Cf rfl ?_|refine Bi rfl ?_|refine Bz rfl ?_|refine Lr ?_);conv=>whnf))
  refine Cnd_i (fun g => ?_) (fun g => ?_)
  · have g := of_decide_eq_true g
    ((conv=>whnf);repeat((first|refine Ct ‹_› ?_|refine Cf ‹_› ?_|refine Ct rfl ?_|refine Cf rfl ?_|refine Bi rfl ?_|refine Bz rfl ?_|refine Lr ?_);conv=>whnf))
    refine ⟨?_, rfl, rfl⟩
    rw [szB, if_pos g]; rfl
  have g := of_decide_eq_false g
  ((conv=>whnf);repeat((first|refine Ct ‹_› ?_|refine Cf ‹_› ?_|refine Ct rfl ?_|refine Cf rfl ?_|refine Bi rfl ?_|refine Bz rfl ?_|refine Lr ?_);conv=>whnf))
  refine CallQ_some (F_szMap b.m ho.m _ (by omega) b1) rfl rfl ?_
  ((conv=>whnf);repeat((first|refine Ct ‹_› ?_|refine Cf ‹_› ?_|refine Ct rfl ?_|refine Cf rfl ?_|refine Bi rfl ?_|refine Bz rfl ?_|refine Lr ?_);conv=>whnf))
  refine Cnd_i (fun g2 => ?_) (fun g2 => ?_)
  · have g2 := of_decide_eq_true g2
    ((conv=>whnf);repeat((first|refine Ct ‹_› ?_|refine Cf ‹_› ?_|refine Ct rfl ?_|refine Cf rfl ?_|refine Bi rfl ?_|refine Bz rfl ?_|refine Lr ?_);conv=>whnf))
    refine ⟨?_, rfl, rfl⟩
    rw [szB, if_neg g, if_pos g2]; rfl
  · have g2 := of_decide_eq_false g2
    ((conv=>whnf);repeat((first|refine Ct ‹_› ?_|refine Cf ‹_› ?_|refine Ct rfl ?_|refine Cf rfl ?_|refine Bi rfl ?_|refine Bz rfl ?_|refine Lr ?_);conv=>whnf))
    refine ⟨?_, rfl, rfl⟩
    rw [szB, if_neg g, if_neg g2]; rfl

/-- a row of numbers of one's own -/
abbrev rwI (l : List Int) : Row := ⟨false, 1, l.length, fun i _ => cI (l.getD i 0)⟩

/-- a row that is being filled -/
abbrev rwIu (l : List Int) (k : Int) : Row := ⟨false, 1, l.length, fun i _ => cI (if (i : Int) < k then l.getD i 0 else 0)⟩

theorem rwIu_full (l : List Int) : rwIu l (l.length : Int) = rwI l := by
  unfold rwIu rwI
  congr 1
  funext i j
  by_cases e : (i : Int) < l.length
  · rw [if_pos e]
  · rw [if_neg e]
    have : l.getD i 0 = 0 := by
      rw [List.getD_eq_getElem?_getD, List.getElem?_eq_none (by omega)]; rfl
    rw [this]

theorem noRo1 {k0 : Nat} {r : Row} (h : NoRo r) : ∀ k q, lk ([(k0, r)] ++ []) k = some q → NoRo q := by
  intro k q hk
  have hk : lk [(k0, r)] k = some q := by simpa using hk
  rw [lk_cons] at hk
  split at hk
  · cases hk; exact h
  · cases hk

theorem F_toIntS (l : List Int) (hl : l.length ≤ 1048576) : Fun E0 68 [.one (roI l)] [] (.v (.one (.own 0 l.length))) [(0, rwI l)] [] := by
  refine Fun_of_xc k68 rfl rfl (noRo1 (fun i j _ _ => rfl)) ?_
  ((conv=>whnf);repeat((first|refine Ct ‹_› ?_|refine Cf ‹_› ?_|refine Ct rfl ?_|refine Cf rfl ?_|refine Bi rfl ?_|refine Bz rfl ?_|refine Lr ?_);conv=>whnf))
  refine Rw_self ?_
  ((conv=>whnf);repeat((first|refine Ct ‹_› ?_|refine Cf ‹_› ?_|refine Ct rfl ?_|refine Cf rfl ?_|refine Bi rfl ?_|refine Bz rfl ?_|refine Lr ?_);conv=>whnf))
  refine Bnd_i (by omega) ?_
  ((conv=>whnf);repeat((first|refine Ct ‹_› ?_|refine Cf ‹_› ?_|refine Ct rfl ?_|refine Cf rfl ?_|refine Bi rfl ?_|refine Bz rfl ?_|refine Lr ?_);conv=>whnf))
  refine Rw_i (rwIu l 0) ⟨rfl, rfl, by simp [zeroRow], fun i j hi hj => ?_⟩ ?_
  · have hj : j < 1 := hj
    obtain rfl : j = 0 := by omega
    show cI 0 = cI (if (i : Int) < 0 then l.getD i 0 else 0)
    rw [if_neg (by omega)]
  ((conv=>whnf);repeat((first|refine Ct ‹_› ?_|refine Cf ‹_› ?_|refine Ct rfl ?_|refine Cf rfl ?_|refine Bi rfl ?_|refine Bz rfl ?_|refine Lr ?_);conv=>whnf))
  refine WLoop_v ⟨[0, 3, 4], [], []⟩ (fun i : Int => hdS 22 [(0, .v (.one (roI l))), (3, .v (.one (.own (vkey 3) l.length))), (4, .v (vI i))] [] [(vkey 3, rwIu l i)])
    (fun k i => 0 ≤ i ∧ i + k = l.length) l.length 0 rfl ⟨by omega, by omega⟩ ?_
  rintro k i ⟨h1, h2⟩
  ((conv=>whnf);repeat((first|refine Ct ‹_› ?_|refine Cf ‹_› ?_|refine Ct rfl ?_|refine Cf rfl ?_|refine Bi rfl ?_|refine Bz rfl ?_|refine Lr ?_);conv=>whnf))
  refine Cnd_i (fun h => ?_) (fun h => ?_)
  · have hi' : i < l.length := of_decide_eq_true h
    ((conv=>whnf);repeat((first|refine Ct ‹_› ?_|refine Cf ‹_› ?_|refine Ct rfl ?_|refine Cf rfl ?_|refine Bi rfl ?_|refine Bz rfl ?_|refine Lr ?_);conv=>whnf))
    refine Bnd_i ⟨h1, hi'⟩ ?_
    ((conv=>whnf);repeat((first|refine Ct ‹_› ?_|refine Cf ‹_› ?_|refine Ct rfl ?_|refine Cf rfl ?_|refine Bi rfl ?_|refine Bz rfl ?_|refine Lr ?_);conv=>whnf))
    refine Bnd_i ⟨h1, hi'⟩ ?_
    ((conv=>whnf);repeat((first|refine Ct ‹_› ?_|refine Cf ‹_› ?_|refine Ct rfl ?_|refine Cf rfl ?_|refine Bi rfl ?_|refine Bz rfl ?_|refine Lr ?_);conv=>whnf))
    refine Rw_i (rwIu l (i + 1)) ⟨rfl, rfl, rfl, fun i' j hi hj => ?_⟩ ?_
    · have hj : j < 1 := hj
      obtain rfl : j = 0 := by omega
      show wrG (rwIu l i).get i.toNat 0 [cI (l.getD i.toNat 0)] i' 0 = cI (if (i' : Int) < i + 1 then l.getD i' 0 else 0)
      by_cases e : i' = i.toNat
      · subst e
        rw [wrG_in (by simp), if_pos (by omega)]; rfl
      · rw [wrG_out (fun hh => e hh.1)]
        show cI (if (i' : Int) < i then l.getD i' 0 else 0) = _
        by_cases e2 : (i' : Int) < i
        · rw [if_pos e2, if_pos (by omega)]
        · rw [if_neg e2, if_neg (by omega)]
    ((conv=>whnf);repeat((first|refine Ct ‹_› ?_|refine Cf ‹_› ?_|refine Ct rfl ?_|refine Cf rfl ?_|refine Bi rfl ?_|refine Bz rfl ?_|refine Lr ?_);conv=>whnf))
    refine ⟨k - 1, i + 1, ?_, ?_, ?_, ?_⟩
    · rw [wrapI (by omega)]; rfl
    · omega
    · omega
    · omega
  · have hi' := of_decide_eq_false h
    ((conv=>whnf);repeat((first|refine Ct ‹_› ?_|refine Cf ‹_› ?_|refine Ct rfl ?_|refine Cf rfl ?_|refine Bi rfl ?_|refine Bz rfl ?_|refine Lr ?_);conv=>whnf))
    obtain rfl : i = (l.length : Int) := by omega
    rw [rwIu_full]
    exact ⟨rfl, rfl, rfl⟩

theorem nrN : ∀ k q, lk ([] : Ob) k = some q → NoRo q := fun _ _ h => by cases h

theorem nrC {k0 : Nat} {r : Row} {l : Ob} (h : NoRo r) (hl : ∀ k q, lk l k = some q → NoRo q) : ∀ k q, lk ((k0, r) :: l) k = some q → NoRo q := by
  intro k q hk
  rw [lk_cons] at hk
  split at hk
  · cases hk; exact h
  · exact hl k q hk

theorem rwI_no (l : List Int) : NoRo (rwI l) := fun _ _ _ _ => rfl

theorem F_toTerrain (t : Ter) (hc : t.cost.length ≤ 1048576) : Fun E0 100 [.agg t.cs] [] (.v (.agg [.str t.name, .own 1 t.cost.length, cI t.shift, cI t.height, .bool t.blocks])) [(1, rwI t.cost)] [] := by
  refine Fun_of_xc k100 rfl rfl (nrC (rwI_no _) nrN) ?_
  ((conv=>whnf);repeat((first|refine Ct ‹_› ?_|refine Cf ‹_› ?_|refine Ct rfl ?_|refine Cf rfl ?_|refine Bi rfl ?_|refine Bz rfl ?_|refine Lr ?_);conv=>whnf))
  refine CallQ_some (F_toIntS t.cost hc) rfl rfl ?_
  ((conv=>whnf);repeat((first|refine Ct ‹_› ?_|refine Cf ‹_› ?_|refine Ct rfl ?_|refine Cf rfl ?_|refine Bi rfl ?_|refine Bz rfl ?_|refine Lr ?_);conv=>whnf))
  exact ⟨rfl, rfl, rfl⟩

/-- a terrain in a row of one's own -/
abbrev Ter.cw (t : Ter) : List Cell := [.str t.name, .fr 1 t.cost.length fun i _ => cI (t.cost.getD i 0), cI t.shift, cI t.height, .bool t.blocks]

abbrev Ter.cz : List Cell := [.str ⟨#[]⟩, .ro 1 0 nog, cI 0, cI 0, .bool false]

abbrev rwT (l : List Ter) : Row := ⟨true, 5, l.length, fun i j => nth (l.getD i Ter.d).cw j⟩

abbrev rwTu (l : List Ter) (k : Int) : Row := ⟨true, 5, l.length, fun i j => if (i : Int) < k ∨ l.length ≤ i then nth (l.getD i Ter.d).cw j else nth Ter.cz j⟩

theorem rwT_no (l : List Ter) : NoRo (rwT l) := by
  intro i j _ hj
  have hj : j < 5 := hj
  match j, hj with
  | 0, _ => rfl
  | 1, _ => exact fun _ _ _ _ => rfl
  | 2, _ => rfl
  | 3, _ => rfl
  | 4, _ => rfl

theorem F_toTerrainS (l : List Ter) (hl : l.length ≤ 1048576) (hc : ∀ t ∈ l, t.cost.length ≤ 1048576) : Fun E0 66 [.one (roT l)] [] (.v (.one (.own 0 l.length))) [(0, rwT l)] [] := by
  refine Fun_of_xc k66 rfl rfl (nrC (rwT_no _) nrN) ?_
  ((conv=>whnf);repeat((first|refine Ct ‹_› ?_|refine Cf ‹_› ?_|refine Ct rfl ?_|refine Cf rfl ?_|refine Bi rfl ?_|refine Bz rfl ?_|refine Lr ?_);conv=>whnf))
  refine Rw_self ?_
  ((conv=>whnf);repeat((first|refine Ct ‹_› ?_|refine Cf ‹_› ?_|refine Ct rfl ?_|refine Cf rfl ?_|refine Bi rfl ?_|refine Bz rfl ?_|refine Lr ?_);conv=>whnf))
  refine Bnd_i (by omega) ?_
  ((conv=>whnf);repeat((first|refine Ct ‹_› ?_|refine Cf ‹_› ?_|refine Ct rfl ?_|refine Cf rfl ?_|refine Bi rfl ?_|refine Bz rfl ?_|refine Lr ?_);conv=>whnf))
  refine Rw_i (rwTu l 0) ⟨rfl, rfl, by simp [zeroRow], fun i j hi hj => ?_⟩ ?_
  · have hi : i < l.length := by simpa [zeroRow] using hi
    show nth Ter.cz j = if (i : Int) < 0 ∨ l.length ≤ i then nth (l.getD i Ter.d).cw j else nth Ter.cz j
    rw [if_neg (by omega)]
  ((conv=>whnf);repeat((first|refine Ct ‹_› ?_|refine Cf ‹_› ?_|refine Ct rfl ?_|refine Cf rfl ?_|refine Bi rfl ?_|refine Bz rfl ?_|refine Lr ?_);conv=>whnf))
  refine WLoop_v ⟨[0, 3, 4], [], []⟩ (fun i : Int => hdS 23 [(0, .v (.one (roT l))), (3, .v (.one (.own (vkey 3) l.length))), (4, .v (vI i))] [] [(vkey 3, rwTu l i)])
    (fun k i => 0 ≤ i ∧ i + k = l.length) l.length 0 rfl ⟨by omega, by omega⟩ ?_
  rintro k i ⟨h1, h2⟩
  ((conv=>whnf);repeat((first|refine Ct ‹_› ?_|refine Cf ‹_› ?_|refine Ct rfl ?_|refine Cf rfl ?_|refine Bi rfl ?_|refine Bz rfl ?_|refine Lr ?_);conv=>whnf))
  refine Cnd_i (fun h => ?_) (fun h => ?_)
  · have hi' : i < l.length := of_decide_eq_true h
    ((conv=>whnf);repeat((first|refine Ct ‹_› ?_|refine Cf ‹_› ?_|refine Ct rfl ?_|refine Cf rfl ?_|refine Bi rfl ?_|refine Bz rfl ?_|refine Lr ?_);conv=>whnf))
    refine Bnd_i ⟨h1, hi'⟩ ?_
    ((conv=>whnf);repeat((first|refine Ct ‹_› ?_|refine Cf ‹_› ?_|refine Ct rfl ?_|refine Cf rfl ?_|refine Bi rfl ?_|refine Bz rfl ?_|refine Lr ?_);conv=>whnf))
    refine CallQ_some (F_toTerrain (l.getD i.toNat Ter.d) (hc _ (getD_memT h1 hi'))) rfl rfl ?_
    ((conv=>whnf);repeat((first|refine Ct ‹_› ?_|refine Cf ‹_› ?_|refine Ct rfl ?_|refine Cf rfl ?_|refine Bi rfl ?_|refine Bz rfl ?_|refine Lr ?_);conv=>whnf))
    refine Bnd_i ⟨h1, hi'⟩ ?_
    ((conv=>whnf);repeat((first|refine Ct ‹_› ?_|refine Cf ‹_› ?_|refine Ct rfl ?_|refine Cf rfl ?_|refine Bi rfl ?_|refine Bz rfl ?_|refine Lr ?_);conv=>whnf))
    refine Rw_i (rwTu l (i + 1)) ⟨rfl, rfl, rfl, fun i' j hi hj => ?_⟩ ?_
    · have hj : j < 5 := hj
      have hi : i' < l.length := hi
      show wrG (rwTu l i).get i.toNat 0 (l.getD i.toNat Ter.d).cw i' j = if (i' : Int) < i + 1 ∨ l.length ≤ i' then nth (l.getD i' Ter.d).cw j else nth Ter.cz j
      by_cases e : i' = i.toNat
      · subst e
        rw [wrG_in (by simp; omega), if_pos (by omega)]; rfl
      · rw [wrG_out (fun hh => e hh.1)]
        show (if (i' : Int) < i ∨ l.length ≤ i' then nth (l.getD i' Ter.d).cw j else nth Ter.cz j) = _
        by_cases e2 : (i' : Int) < i
        · rw [if_pos (.inl e2), if_pos (.inl (by omega))]
        · rw [if_neg (by omega), if_neg (by omega)]
    ((conv=>whnf);repeat((first|refine Ct ‹_› ?_|refine Cf ‹_› ?_|refine Ct rfl ?_|refine Cf rfl ?_|refine Bi rfl ?_|refine Bz rfl ?_|refine Lr ?_);conv=>whnf))
    refine ⟨k - 1, i + 1, ?_, ?_, ?_, ?_⟩
    · rw [wrapI (by omega)]; rfl
    · omega
    · omega
    · omega
  · have hi' := of_decide_eq_false h
    ((conv=>whnf);repeat((first|refine Ct ‹_› ?_|refine Cf ‹_› ?_|refine Ct rfl ?_|refine Cf rfl ?_|refine Bi rfl ?_|refine Bz rfl ?_|refine Lr ?_);conv=>whnf))
    have e : rwTu l i = rwT l := by
      unfold rwTu rwT
      congr 1
      funext i' j
      rw [if_pos (by omega)]
    rw [e]
    exact ⟨rfl, rfl, rfl⟩

theorem F_toKind (t : Knd) : Fun E0 101 [.agg t.cs] [] (.v (.agg t.cs)) [] [] := by
  refine Fun_of_xc k101 rfl rfl (fun k q h => by cases h) ?_
  ((conv=>whnf);repeat((first|refine Ct ‹_› ?_|refine Cf ‹_› ?_|refine Ct rfl ?_|refine Cf rfl ?_|refine Bi rfl ?_|refine Bz rfl ?_|refine Lr ?_);conv=>whnf))
  exact ⟨rfl, rfl, rfl⟩

abbrev Knd.cz : List Cell := [.str ⟨#[]⟩, cI 0, cI 0, cI 0, .bool false, cI 0]

abbrev rwK (l : List Knd) : Row := ⟨false, 6, l.length, fun i j => nth (l.getD i Knd.d).cs j⟩

abbrev rwKu (l : List Knd) (k : Int) : Row := ⟨false, 6, l.length, fun i j => if (i : Int) < k ∨ l.length ≤ i then nth (l.getD i Knd.d).cs j else nth Knd.cz j⟩

theorem rwK_no (l : List Knd) : NoRo (rwK l) := by
  intro i j _ hj
  have hj : j < 6 := hj
  match j, hj with
  | 0, _ => rfl
  | 1, _ => rfl
  | 2, _ => rfl
  | 3, _ => rfl
  | 4, _ => rfl
  | 5, _ => rfl

theorem F_toKindS (l : List Knd) (hl : l.length ≤ 1048576) : Fun E0 67 [.one (roK l)] [] (.v (.one (.own 0 l.length))) [(0, rwK l)] [] := by
  refine Fun_of_xc k67 rfl rfl (nrC (rwK_no _) nrN) ?_
  ((conv=>whnf);repeat((first|refine Ct ‹_› ?_|refine Cf ‹_› ?_|refine Ct rfl ?_|refine Cf rfl ?_|refine Bi rfl ?_|refine Bz rfl ?_|refine Lr ?_);conv=>whnf))
  refine Rw_self ?_
  ((conv=>whnf);repeat((first|refine Ct ‹_› ?_|refine Cf ‹_› ?_|refine Ct rfl ?_|refine Cf rfl ?_|refine Bi rfl ?_|refine Bz rfl ?_|refine Lr ?_);conv=>whnf))
  refine Bnd_i (by omega) ?_
  ((conv=>whnf);repeat((first|refine Ct ‹_› ?_|refine Cf ‹_› ?_|refine Ct rfl ?_|refine Cf rfl ?_|refine Bi rfl ?_|refine Bz rfl ?_|refine Lr ?_);conv=>whnf))
  refine Rw_i (rwKu l 0) ⟨rfl, rfl, by simp [zeroRow], fun i j hi hj => ?_⟩ ?_
  · have hi : i < l.length := by simpa [zeroRow] using hi
    show nth Knd.cz j = if (i : Int) < 0 ∨ l.length ≤ i then nth (l.getD i Knd.d).cs j else nth Knd.cz j
    rw [if_neg (by omega)]
  ((conv=>whnf);repeat((first|refine Ct ‹_› ?_|refine Cf ‹_› ?_|refine Ct rfl ?_|refine Cf rfl ?_|refine Bi rfl ?_|refine Bz rfl ?_|refine Lr ?_);conv=>whnf))
  refine WLoop_v ⟨[0, 3, 4], [], []⟩ (fun i : Int => hdS 23 [(0, .v (.one (roK l))), (3, .v (.one (.own (vkey 3) l.length))), (4, .v (vI i))] [] [(vkey 3, rwKu l i)])
    (fun k i => 0 ≤ i ∧ i + k = l.length) l.length 0 rfl ⟨by omega, by omega⟩ ?_
  rintro k i ⟨h1, h2⟩
  ((conv=>whnf);repeat((first|refine Ct ‹_› ?_|refine Cf ‹_› ?_|refine Ct rfl ?_|refine Cf rfl ?_|refine Bi rfl ?_|refine Bz rfl ?_|refine Lr ?_);conv=>whnf))
  refine Cnd_i (fun h => ?_) (fun h => ?_)
  · have hi' : i < l.length := of_decide_eq_true h
    ((conv=>whnf);repeat((first|refine Ct ‹_› ?_|refine Cf ‹_› ?_|refine Ct rfl ?_|refine Cf rfl ?_|refine Bi rfl ?_|refine Bz rfl ?_|refine Lr ?_);conv=>whnf))
    refine Bnd_i ⟨h1, hi'⟩ ?_
    ((conv=>whnf);repeat((first|refine Ct ‹_› ?_|refine Cf ‹_› ?_|refine Ct rfl ?_|refine Cf rfl ?_|refine Bi rfl ?_|refine Bz rfl ?_|refine Lr ?_);conv=>whnf))
    refine CallQ_some (F_toKind (l.getD i.toNat Knd.d)) rfl rfl ?_
    ((conv=>whnf);repeat((first|refine Ct ‹_› ?_|refine Cf ‹_› ?_|refine Ct rfl ?_|refine Cf rfl ?_|refine Bi rfl ?_|refine Bz rfl ?_|refine Lr ?_);conv=>whnf))
    refine Bnd_i ⟨h1, hi'⟩ ?_
    ((conv=>whnf);repeat((first|refine Ct ‹_› ?_|refine Cf ‹_› ?_|refine Ct rfl ?_|refine Cf rfl ?_|refine Bi rfl ?_|refine Bz rfl ?_|refine Lr ?_);conv=>whnf))
    refine Rw_i (rwKu l (i + 1)) ⟨rfl, rfl, rfl, fun i' j hi hj => ?_⟩ ?_
    · have hj : j < 6 := hj
      have hi : i' < l.length := hi
      show wrG (rwKu l i).get i.toNat 0 (l.getD i.toNat Knd.d).cs i' j = if (i' : Int) < i + 1 ∨ l.length ≤ i' then nth (l.getD i' Knd.d).cs j else nth Knd.cz j
      by_cases e : i' = i.toNat
      · subst e
        rw [wrG_in (by simp; omega), if_pos (by omega)]; rfl
      · rw [wrG_out (fun hh => e hh.1)]
        show (if (i' : Int) < i ∨ l.length ≤ i' then nth (l.getD i' Knd.d).cs j else nth Knd.cz j) = _
        by_cases e2 : (i' : Int) < i
        · rw [if_pos (.inl e2), if_pos (.inl (by omega))]
        · rw [if_neg (by omega), if_neg (by omega)]
    ((conv=>whnf);repeat((first|refine Ct ‹_› ?_|refine Cf ‹_› ?_|refine Ct rfl ?_|refine Cf rfl ?_|refine Bi rfl ?_|refine Bz rfl ?_|refine Lr ?_);conv=>whnf))
    refine ⟨k - 1, i + 1, ?_, ?_, ?_, ?_⟩
    · rw [wrapI (by omega)]; rfl
    · omega
    · omega
    · omega
  · have hi' := of_decide_eq_false h
    ((conv=>whnf);repeat((first|refine Ct ‹_› ?_|refine Cf ‹_› ?_|refine Ct rfl ?_|refine Cf rfl ?_|refine Bi rfl ?_|refine Bz rfl ?_|refine Lr ?_);conv=>whnf))
    have e : rwKu l i = rwK l := by
      unfold rwKu rwK
      congr 1
      funext i' j
      rw [if_pos (by omega)]
    rw [e]
    exact ⟨rfl, rfl, rfl⟩

/-- what a copy asks: no list of more than 2^20 elements -/
structure Rul.Sm (r : Rul) : Prop where
  ter : r.ter.length ≤ 1048576
  cost : ∀ t ∈ r.ter, t.cost.length ≤ 1048576
  knd : r.knd.length ≤ 1048576

structure Map.Sm (m : Map) : Prop where
  ter : m.ter.length ≤ 1048576
  riv : m.riv.length ≤ 1048576
  roa : m.roa.length ≤ 1048576

structure Brd.Sm (b : Brd) : Prop where
  r : b.r.Sm
  m : b.m.Sm

theorem F_toRules (r : Rul) (h : r.Sm) : Fun E0 33 [.agg r.cs] [] (.v (.agg [.own 0 r.ter.length, .own 1 r.knd.length, cI r.stack, cI r.river, cI r.road, cI r.supply, cI r.turns])) [(0, rwT r.ter), (1, rwK r.knd)] [] := by
  refine Fun_of_xc k33 rfl rfl (nrC (rwT_no _) (nrC (rwK_no _) nrN)) ?_
  ((conv=>whnf);repeat((first|refine Ct ‹_› ?_|refine Cf ‹_› ?_|refine Ct rfl ?_|refine Cf rfl ?_|refine Bi rfl ?_|refine Bz rfl ?_|refine Lr ?_);conv=>whnf))
  refine CallQ_some (F_toTerrainS r.ter h.ter h.cost) rfl rfl ?_
  ((conv=>whnf);repeat((first|refine Ct ‹_› ?_|refine Cf ‹_› ?_|refine Ct rfl ?_|refine Cf rfl ?_|refine Bi rfl ?_|refine Bz rfl ?_|refine Lr ?_);conv=>whnf))
  refine CallQ_some (F_toKindS r.knd h.knd) rfl rfl ?_
  ((conv=>whnf);repeat((first|refine Ct ‹_› ?_|refine Cf ‹_› ?_|refine Ct rfl ?_|refine Cf rfl ?_|refine Bi rfl ?_|refine Bz rfl ?_|refine Lr ?_);conv=>whnf))
  exact ⟨rfl, rfl, rfl⟩

theorem F_toMap (m : Map) (h : m.Sm) : Fun E0 34 [.agg m.cs] [] (.v (.agg [cI m.w, cI m.h, .own 2 m.ter.length, .own 3 m.riv.length, .own 4 m.roa.length])) [(2, rwI m.ter), (3, rwI m.riv), (4, rwI m.roa)] [] := by
  refine Fun_of_xc k34 rfl rfl (nrC (rwI_no _) (nrC (rwI_no _) (nrC (rwI_no _) nrN))) ?_
  ((conv=>whnf);repeat((first|refine Ct ‹_› ?_|refine Cf ‹_› ?_|refine Ct rfl ?_|refine Cf rfl ?_|refine Bi rfl ?_|refine Bz rfl ?_|refine Lr ?_);conv=>whnf))
  refine CallQ_some (F_toIntS m.ter h.ter) rfl rfl ?_
  ((conv=>whnf);repeat((first|refine Ct ‹_› ?_|refine Cf ‹_› ?_|refine Ct rfl ?_|refine Cf rfl ?_|refine Bi rfl ?_|refine Bz rfl ?_|refine Lr ?_);conv=>whnf))
  refine CallQ_some (F_toIntS m.riv h.riv) rfl rfl ?_
  ((conv=>whnf);repeat((first|refine Ct ‹_› ?_|refine Cf ‹_› ?_|refine Ct rfl ?_|refine Cf rfl ?_|refine Bi rfl ?_|refine Bz rfl ?_|refine Lr ?_);conv=>whnf))
  refine CallQ_some (F_toIntS m.roa h.roa) rfl rfl ?_
  ((conv=>whnf);repeat((first|refine Ct ‹_› ?_|refine Cf ‹_› ?_|refine Ct rfl ?_|refine Cf rfl ?_|refine Bi rfl ?_|refine Bz rfl ?_|refine Lr ?_);conv=>whnf))
  exact ⟨rfl, rfl, rfl⟩

abbrev Brd.cw (b : Brd) : List Cell := [.own 0 b.r.ter.length, .own 1 b.r.knd.length, cI b.r.stack, cI b.r.river, cI b.r.road, cI b.r.supply, cI b.r.turns, cI b.m.w, cI b.m.h, .own 9 b.m.ter.length, .own 10 b.m.riv.length, .own 11 b.m.roa.length]

abbrev Brd.rows (b : Brd) : Ob := [(0, rwT b.r.ter), (1, rwK b.r.knd), (9, rwI b.m.ter), (10, rwI b.m.riv), (11, rwI b.m.roa)]

theorem F_toBoard (b : Brd) (h : b.Sm) : Fun E0 9 [.agg b.cs] [] (.v (.agg b.cw)) b.rows [] := by
  refine Fun_of_xc k9 rfl rfl (nrC (rwT_no _) (nrC (rwK_no _) (nrC (rwI_no _) (nrC (rwI_no _) (nrC (rwI_no _) nrN))))) ?_
  ((conv=>whnf);repeat((first|refine Ct ‹_› ?_|refine Cf ‹_› ?_|refine Ct rfl ?_|refine Cf rfl ?_|refine Bi rfl ?_|refine Bz rfl ?_|refine Lr ?_);conv=>whnf))
  refine CallQ_some (F_toRules b.r h.r) rfl rfl ?_
  ((conv=>whnf);repeat((first|refine Ct ‹_› ?_|refine Cf ‹_› ?_|refine Ct rfl ?_|refine Cf rfl ?_|refine Bi rfl ?_|refine Bz rfl ?_|refine Lr ?_);conv=>whnf))
  refine CallQ_some (F_toMap b.m h.m) rfl rfl ?_
  ((conv=>whnf);repeat((first|refine Ct ‹_› ?_|refine Cf ‹_› ?_|refine Ct rfl ?_|refine Cf rfl ?_|refine Bi rfl ?_|refine Bz rfl ?_|refine Lr ?_);conv=>whnf))
  exact ⟨rfl, rfl, rfl⟩

theorem F_eqIntS (l : List Int) (hl : l.length ≤ 1048576) : Fun E0 11 [.one (roI l), .one (roI l)] [] (.v (vB true)) [] [] := by
  refine Fun_of_xc k11 rfl rfl (fun k q h => by cases h) ?_
  ((conv=>whnf);repeat((first|refine Ct ‹_› ?_|refine Cf ‹_› ?_|refine Ct rfl ?_|refine Cf rfl ?_|refine Bi rfl ?_|refine Bz rfl ?_|refine Lr ?_);conv=>whnf))
  refine Cnd_f (by simp) ?_
  ((conv=>whnf);repeat((first|refine Ct ‹_› ?_|refine Cf ‹_› ?_|refine Ct rfl ?_|refine Cf rfl ?_|refine Bi rfl ?_|refine Bz rfl ?_|refine Lr ?_);conv=>whnf))
  refine WLoop_v ⟨[0, 1, 5], [], []⟩ (fun i : Int => hdS 26 [(0, .v (.one (roI l))), (1, .v (.one (roI l))), (5, .v (vI i))] [] [])
    (fun k i => 0 ≤ i ∧ i + k = l.length) l.length 0 rfl ⟨by omega, by omega⟩ ?_
  rintro k i ⟨h1, h2⟩
  ((conv=>whnf);repeat((first|refine Ct ‹_› ?_|refine Cf ‹_› ?_|refine Ct rfl ?_|refine Cf rfl ?_|refine Bi rfl ?_|refine Bz rfl ?_|refine Lr ?_);conv=>whnf))
  refine Cnd_i (fun h => ?_) (fun h => ?_)
  · have hi' : i < l.length := of_decide_eq_true h
    ((conv=>whnf);repeat((first|refine Ct ‹_› ?_|refine Cf ‹_› ?_|refine Ct rfl ?_|refine Cf rfl ?_|refine Bi rfl ?_|refine Bz rfl ?_|refine Lr ?_);conv=>whnf))
    refine Bnd_i ⟨h1, hi'⟩ ?_
    ((conv=>whnf);repeat((first|refine Ct ‹_› ?_|refine Cf ‹_› ?_|refine Ct rfl ?_|refine Cf rfl ?_|refine Bi rfl ?_|refine Bz rfl ?_|refine Lr ?_);conv=>whnf))
    refine Bnd_i ⟨h1, hi'⟩ ?_
    ((conv=>whnf);repeat((first|refine Ct ‹_› ?_|refine Cf ‹_› ?_|refine Ct rfl ?_|refine Cf rfl ?_|refine Bi rfl ?_|refine Bz rfl ?_|refine Lr ?_);conv=>whnf))
    refine Cnd_f (by simp) ?_
    ((conv=>whnf);repeat((first|refine Ct ‹_› ?_|refine Cf ‹_› ?_|refine Ct rfl ?_|refine Cf rfl ?_|refine Bi rfl ?_|refine Bz rfl ?_|refine Lr ?_);conv=>whnf))
    refine ⟨k - 1, i + 1, ?_, ?_, ?_, ?_⟩
    · rw [wrapI (by omega)]; rfl
    · omega
    · omega
    · omega
  · ((conv=>whnf);repeat((first|refine Ct ‹_› ?_|refine Cf ‹_› ?_|refine Ct rfl ?_|refine Cf rfl ?_|refine Bi rfl ?_|refine Bz rfl ?_|refine Lr ?_);conv=>whnf))
    exact ⟨rfl, rfl, rfl⟩

theorem F_eqTerrain (t : Ter) (hc : t.cost.length ≤ 1048576) : Fun E0 107 [.agg t.cs, .agg t.cs] [] (.v (vB true)) [] [] := by
  refine Fun_of_xc k107 rfl rfl (fun k q h => by cases h) ?_
  ((conv=>whnf);repeat((first|refine Ct ‹_› ?_|refine Cf ‹_› ?_|refine Ct rfl ?_|refine Cf rfl ?_|refine Bi rfl ?_|refine Bz rfl ?_|refine Lr ?_);conv=>whnf))
  refine Cnd_f (by simp) ?_
  ((conv=>whnf);repeat((first|refine Ct ‹_› ?_|refine Cf ‹_› ?_|refine Ct rfl ?_|refine Cf rfl ?_|refine Bi rfl ?_|refine Bz rfl ?_|refine Lr ?_);conv=>whnf))
  refine CallQ_some (F_eqIntS t.cost hc) rfl rfl ?_
  ((conv=>whnf);repeat((first|refine Ct ‹_› ?_|refine Cf ‹_› ?_|refine Ct rfl ?_|refine Cf rfl ?_|refine Bi rfl ?_|refine Bz rfl ?_|refine Lr ?_);conv=>whnf))
  refine Cnd_f (by simp) ?_
  ((conv=>whnf);repeat((first|refine Ct ‹_› ?_|refine Cf ‹_› ?_|refine Ct rfl ?_|refine Cf rfl ?_|refine Bi rfl ?_|refine Bz rfl ?_|refine Lr ?_);conv=>whnf))
  refine Cnd_f (by simp) ?_
  ((conv=>whnf);repeat((first|refine Ct ‹_› ?_|refine Cf ‹_› ?_|refine Ct rfl ?_|refine Cf rfl ?_|refine Bi rfl ?_|refine Bz rfl ?_|refine Lr ?_);conv=>whnf))
  refine Cnd_f (by simp) ?_
  ((conv=>whnf);repeat((first|refine Ct ‹_› ?_|refine Cf ‹_› ?_|refine Ct rfl ?_|refine Cf rfl ?_|refine Bi rfl ?_|refine Bz rfl ?_|refine Lr ?_);conv=>whnf))
  exact ⟨rfl, rfl, rfl⟩

theorem F_eqTerrainS (l : List Ter) (hl : l.length ≤ 1048576) (hc : ∀ t ∈ l, t.cost.length ≤ 1048576) : Fun E0 76 [.one (roT l), .one (roT l)] [] (.v (vB true)) [] [] := by
  refine Fun_of_xc k76 rfl rfl (fun k q h => by cases h) ?_
  ((conv=>whnf);repeat((first|refine Ct ‹_› ?_|refine Cf ‹_› ?_|refine Ct rfl ?_|refine Cf rfl ?_|refine Bi rfl ?_|refine Bz rfl ?_|refine Lr ?_);conv=>whnf))
  refine Cnd_f (by simp) ?_
  ((conv=>whnf);repeat((first|refine Ct ‹_› ?_|refine Cf ‹_› ?_|refine Ct rfl ?_|refine Cf rfl ?_|refine Bi rfl ?_|refine Bz rfl ?_|refine Lr ?_);conv=>whnf))
  refine WLoop_v ⟨[0, 1, 5], [], []⟩ (fun i : Int => hdS 27 [(0, .v (.one (roT l))), (1, .v (.one (roT l))), (5, .v (vI i))] [] [])
    (fun k i => 0 ≤ i ∧ i + k = l.length) l.length 0 rfl ⟨by omega, by omega⟩ ?_
  rintro k i ⟨h1, h2⟩
  ((conv=>whnf);repeat((first|refine Ct ‹_› ?_|refine Cf ‹_› ?_|refine Ct rfl ?_|refine Cf rfl ?_|refine Bi rfl ?_|refine Bz rfl ?_|refine Lr ?_);conv=>whnf))
  refine Cnd_i (fun h => ?_) (fun h => ?_)
  · have hi' : i < l.length := of_decide_eq_true h
    ((conv=>whnf);repeat((first|refine Ct ‹_› ?_|refine Cf ‹_› ?_|refine Ct rfl ?_|refine Cf rfl ?_|refine Bi rfl ?_|refine Bz rfl ?_|refine Lr ?_);conv=>whnf))
    refine Bnd_i ⟨h1, hi'⟩ ?_
    ((conv=>whnf);repeat((first|refine Ct ‹_› ?_|refine Cf ‹_› ?_|refine Ct rfl ?_|refine Cf rfl ?_|refine Bi rfl ?_|refine Bz rfl ?_|refine Lr ?_);conv=>whnf))
    refine Bnd_i ⟨h1, hi'⟩ ?_
    ((conv=>whnf);repeat((first|refine Ct ‹_› ?_|refine Cf ‹_› ?_|refine Ct rfl ?_|refine Cf rfl ?_|refine Bi rfl ?_|refine Bz rfl ?_|refine Lr ?_);conv=>whnf))
    refine CallQ_some (F_eqTerrain (l.getD i.toNat Ter.d) (hc _ (getD_memT h1 hi'))) rfl rfl ?_
    ((conv=>whnf);repeat((first|refine Ct ‹_› ?_|refine Cf ‹_› ?_|refine Ct rfl ?_|refine Cf rfl ?_|refine Bi rfl ?_|refine Bz rfl ?_|refine Lr ?_);conv=>whnf))
    refine ⟨k - 1, i + 1, ?_, ?_, ?_, ?_⟩
    · rw [wrapI (by omega)]; rfl
    · omega
    · omega
    · omega
  · ((conv=>whnf);repeat((first|refine Ct ‹_› ?_|refine Cf ‹_› ?_|refine Ct rfl ?_|refine Cf rfl ?_|refine Bi rfl ?_|refine Bz rfl ?_|refine Lr ?_);conv=>whnf))
    exact ⟨rfl, rfl, rfl⟩

theorem F_eqKind (t : Knd) : Fun E0 108 [.agg t.cs, .agg t.cs] [] (.v (vB true)) [] [] := by
  refine Fun_of_xc k108 rfl rfl (fun k q h => by cases h) ?_
  ((conv=>whnf);repeat((first|refine Ct ‹_› ?_|refine Cf ‹_› ?_|refine Ct rfl ?_|refine Cf rfl ?_|refine Bi rfl ?_|refine Bz rfl ?_|refine Lr ?_);conv=>whnf))
  refine Cnd_f (by simp) ?_
  ((conv=>whnf);repeat((first|refine Ct ‹_› ?_|refine Cf ‹_› ?_|refine Ct rfl ?_|refine Cf rfl ?_|refine Bi rfl ?_|refine Bz rfl ?_|refine Lr ?_);conv=>whnf))
  refine Cnd_f (by simp) ?_
  ((conv=>whnf);repeat((first|refine Ct ‹_› ?_|refine Cf ‹_› ?_|refine Ct rfl ?_|refine Cf rfl ?_|refine Bi rfl ?_|refine Bz rfl ?_|refine Lr ?_);conv=>whnf))
  refine Cnd_f (by simp) ?_
  ((conv=>whnf);repeat((first|refine Ct ‹_› ?_|refine Cf ‹_› ?_|refine Ct rfl ?_|refine Cf rfl ?_|refine Bi rfl ?_|refine Bz rfl ?_|refine Lr ?_);conv=>whnf))
  refine Cnd_f (by simp) ?_
  ((conv=>whnf);repeat((first|refine Ct ‹_› ?_|refine Cf ‹_› ?_|refine Ct rfl ?_|refine Cf rfl ?_|refine Bi rfl ?_|refine Bz rfl ?_|refine Lr ?_);conv=>whnf))
  refine Cnd_f (by simp) ?_
  ((conv=>whnf);repeat((first|refine Ct ‹_› ?_|refine Cf ‹_› ?_|refine Ct rfl ?_|refine Cf rfl ?_|refine Bi rfl ?_|refine Bz rfl ?_|refine Lr ?_);conv=>whnf))
  refine Cnd_f (by simp) ?_
  ((conv=>whnf);repeat((first|refine Ct ‹_› ?_|refine Cf ‹_› ?_|refine Ct rfl ?_|refine Cf rfl ?_|refine Bi rfl ?_|refine Bz rfl ?_|refine Lr ?_);conv=>whnf))
  exact ⟨rfl, rfl, rfl⟩

theorem F_eqKindS (l : List Knd) (hl : l.length ≤ 1048576) : Fun E0 77 [.one (roK l), .one (roK l)] [] (.v (vB true)) [] [] := by
  refine Fun_of_xc k77 rfl rfl (fun k q h => by cases h) ?_
  ((conv=>whnf);repeat((first|refine Ct ‹_› ?_|refine Cf ‹_› ?_|refine Ct rfl ?_|refine Cf rfl ?_|refine Bi rfl ?_|refine Bz rfl ?_|refine Lr ?_);conv=>whnf))
  refine Cnd_f (by simp) ?_
  ((conv=>whnf);repeat((first|refine Ct ‹_› ?_|refine Cf ‹_› ?_|refine Ct rfl ?_|refine Cf rfl ?_|refine Bi rfl ?_|refine Bz rfl ?_|refine Lr ?_);conv=>whnf))
  refine WLoop_v ⟨[0, 1, 5], [], []⟩ (fun i : Int => hdS 27 [(0, .v (.one (roK l))), (1, .v (.one (roK l))), (5, .v (vI i))] [] [])
    (fun k i => 0 ≤ i ∧ i + k = l.length) l.length 0 rfl ⟨by omega, by omega⟩ ?_
  rintro k i ⟨h1, h2⟩
  ((conv=>whnf);repeat((first|refine Ct ‹_› ?_|refine Cf ‹_› ?_|refine Ct rfl ?_|refine Cf rfl ?_|refine Bi rfl ?_|refine Bz rfl ?_|refine Lr ?_);conv=>whnf))
  refine Cnd_i (fun h => ?_) (fun h => ?_)
  · have hi' : i < l.length := of_decide_eq_true h
    ((conv=>whnf);repeat((first|refine Ct ‹_› ?_|refine Cf ‹_› ?_|refine Ct rfl ?_|refine Cf rfl ?_|refine Bi rfl ?_|refine Bz rfl ?_|refine Lr ?_);conv=>whnf))
    refine Bnd_i ⟨h1, hi'⟩ ?_
    ((conv=>whnf);repeat((first|refine Ct ‹_› ?_|refine Cf ‹_› ?_|refine Ct rfl ?_|refine Cf rfl ?_|refine Bi rfl ?_|refine Bz rfl ?_|refine Lr ?_);conv=>whnf))
    refine Bnd_i ⟨h1, hi'⟩ ?_
    ((conv=>whnf);repeat((first|refine Ct ‹_› ?_|refine Cf ‹_› ?_|refine Ct rfl ?_|refine Cf rfl ?_|refine Bi rfl ?_|refine Bz rfl ?_|refine Lr ?_);conv=>whnf))
    refine CallQ_some (F_eqKind (l.getD i.toNat Knd.d)) rfl rfl ?_
    ((conv=>whnf);repeat((first|refine Ct ‹_› ?_|refine Cf ‹_› ?_|refine Ct rfl ?_|refine Cf rfl ?_|refine Bi rfl ?_|refine Bz rfl ?_|refine Lr ?_);conv=>whnf))
    refine ⟨k - 1, i + 1, ?_, ?_, ?_, ?_⟩
    · rw [wrapI (by omega)]; rfl
    · omega
    · omega
    · omega
  · ((conv=>whnf);repeat((first|refine Ct ‹_› ?_|refine Cf ‹_› ?_|refine Ct rfl ?_|refine Cf rfl ?_|refine Bi rfl ?_|refine Bz rfl ?_|refine Lr ?_);conv=>whnf))
    exact ⟨rfl, rfl, rfl⟩

theorem F_eqRules (r : Rul) (h : r.Sm) : Fun E0 37 [.agg r.cs, .agg r.cs] [] (.v (vB true)) [] [] := by
  refine Fun_of_xc k37 rfl rfl (fun k q h => by cases h) ?_
  ((conv=>whnf);repeat((first|refine Ct ‹_› ?_|refine Cf ‹_› ?_|refine Ct rfl ?_|refine Cf rfl ?_|refine Bi rfl ?_|refine Bz rfl ?_|refine Lr ?_);conv=>whnf))
  refine CallQ_some (F_eqTerrainS r.ter h.ter h.cost) rfl rfl ?_
  ((conv=>whnf);repeat((first|refine Ct ‹_› ?_|refine Cf ‹_› ?_|refine Ct rfl ?_|refine Cf rfl ?_|refine Bi rfl ?_|refine Bz rfl ?_|refine Lr ?_);conv=>whnf))
  refine CallQ_some (F_eqKindS r.knd h.knd) rfl rfl ?_
  ((conv=>whnf);repeat((first|refine Ct ‹_› ?_|refine Cf ‹_› ?_|refine Ct rfl ?_|refine Cf rfl ?_|refine Bi rfl ?_|refine Bz rfl ?_|refine Lr ?_);conv=>whnf))
  refine Cnd_f (by simp) ?_
  ((conv=>whnf);repeat((first|refine Ct ‹_› ?_|refine Cf ‹_› ?_|refine Ct rfl ?_|refine Cf rfl ?_|refine Bi rfl ?_|refine Bz rfl ?_|refine Lr ?_);conv=>whnf))
  refine Cnd_f (by simp) ?_
  ((conv=>whnf);repeat((first|refine Ct ‹_› ?_|refine Cf ‹_› ?_|refine Ct rfl ?_|refine Cf rfl ?_|refine Bi rfl ?_|refine Bz rfl ?_|refine Lr ?_);conv=>whnf))
  refine Cnd_f (by simp) ?_
  ((conv=>whnf);repeat((first|refine Ct ‹_› ?_|refine Cf ‹_› ?_|refine Ct rfl ?_|refine Cf rfl ?_|refine Bi rfl ?_|refine Bz rfl ?_|refine Lr ?_);conv=>whnf))
  refine Cnd_f (by simp) ?_
  ((conv=>whnf);repeat((first|refine Ct ‹_› ?_|refine Cf ‹_› ?_|refine Ct rfl ?_|refine Cf rfl ?_|refine Bi rfl ?_|refine Bz rfl ?_|refine Lr ?_);conv=>whnf))
  refine Cnd_f (by simp) ?_
  ((conv=>whnf);repeat((first|refine Ct ‹_› ?_|refine Cf ‹_› ?_|refine Ct rfl ?_|refine Cf rfl ?_|refine Bi rfl ?_|refine Bz rfl ?_|refine Lr ?_);conv=>whnf))
  exact ⟨rfl, rfl, rfl⟩

theorem F_eqMap (m : Map) (h : m.Sm) : Fun E0 38 [.agg m.cs, .agg m.cs] [] (.v (vB true)) [] [] := by
  refine Fun_of_xc k38 rfl rfl (fun k q h => by cases h) ?_
  ((conv=>whnf);repeat((first|refine Ct ‹_› ?_|refine Cf ‹_› ?_|refine Ct rfl ?_|refine Cf rfl ?_|refine Bi rfl ?_|refine Bz rfl ?_|refine Lr ?_);conv=>whnf))
  refine Cnd_f (by simp) ?_
  ((conv=>whnf);repeat((first|refine Ct ‹_› ?_|refine Cf ‹_› ?_|refine Ct rfl ?_|refine Cf rfl ?_|refine Bi rfl ?_|refine Bz rfl ?_|refine Lr ?_);conv=>whnf))
  refine Cnd_f (by simp) ?_
  ((conv=>whnf);repeat((first|refine Ct ‹_› ?_|refine Cf ‹_› ?_|refine Ct rfl ?_|refine Cf rfl ?_|refine Bi rfl ?_|refine Bz rfl ?_|refine Lr ?_);conv=>whnf))
  refine CallQ_some (F_eqIntS m.ter h.ter) rfl rfl ?_
  ((conv=>whnf);repeat((first|refine Ct ‹_› ?_|refine Cf ‹_› ?_|refine Ct rfl ?_|refine Cf rfl ?_|refine Bi rfl ?_|refine Bz rfl ?_|refine Lr ?_);conv=>whnf))
  refine CallQ_some (F_eqIntS m.riv h.riv) rfl rfl ?_
  ((conv=>whnf);repeat((first|refine Ct ‹_› ?_|refine Cf ‹_› ?_|refine Ct rfl ?_|refine Cf rfl ?_|refine Bi rfl ?_|refine Bz rfl ?_|refine Lr ?_);conv=>whnf))
  refine CallQ_some (F_eqIntS m.roa h.roa) rfl rfl ?_
  ((conv=>whnf);repeat((first|refine Ct ‹_› ?_|refine Cf ‹_› ?_|refine Ct rfl ?_|refine Cf rfl ?_|refine Bi rfl ?_|refine Bz rfl ?_|refine Lr ?_);conv=>whnf))
  exact ⟨rfl, rfl, rfl⟩

theorem F_eqBoard (b : Brd) (h : b.Sm) : Fun E0 12 [.agg b.cs, .agg b.cs] [] (.v (vB true)) [] [] := by
  refine Fun_of_xc k12 rfl rfl (fun k q h => by cases h) ?_
  ((conv=>whnf);repeat((first|refine Ct ‹_› ?_|refine Cf ‹_› ?_|refine Ct rfl ?_|refine Cf rfl ?_|refine Bi rfl ?_|refine Bz rfl ?_|refine Lr ?_);conv=>whnf))
  refine CallQ_some (F_eqRules b.r h.r) rfl rfl ?_
  ((conv=>whnf);repeat((first|refine Ct ‹_› ?_|refine Cf ‹_› ?_|refine Ct rfl ?_|refine Cf rfl ?_|refine Bi rfl ?_|refine Bz rfl ?_|refine Lr ?_);conv=>whnf))
  refine CallQ_some (F_eqMap b.m h.m) rfl rfl ?_
  ((conv=>whnf);repeat((first|refine Ct ‹_› ?_|refine Cf ‹_› ?_|refine Ct rfl ?_|refine Cf rfl ?_|refine Bi rfl ?_|refine Bz rfl ?_|refine Lr ?_);conv=>whnf))
  exact ⟨rfl, rfl, rfl⟩

theorem CallQ_eq {E : Env} {f : Nat} {av av' : List V} {hot : Bool} {d : Option Nat} {ob : Ob} {K : T → Ob → Prop} (e : av = av') (h : CallQ E f av' hot d ob K) : CallQ E f av hot d ob K := e ▸ h

theorem nth_map {g : Cell → Cell} (hg : g .u = .u) : ∀ (l : List Cell) (j : Nat), g (nth l j) = nth (l.map g) j
  | [], _ => hg
  | _ :: _, 0 => rfl
  | _ :: l, j + 1 => nth_map hg l j

theorem toRo_nth (l : List Cell) (j : Nat) : toRo (nth l j) = nth (l.map toRo) j := nth_map rfl l j

theorem snapT (l : List Ter) : Cell.ro 5 l.length (fun i j => toRo (nth (l.getD i Ter.d).cw j)) = roT l := by
  unfold roT
  congr 1
  funext i j
  rw [toRo_nth]; rfl

theorem snapK (l : List Knd) : Cell.ro 6 l.length (fun i j => toRo (nth (l.getD i Knd.d).cs j)) = roK l := by
  unfold roK
  congr 1
  funext i j
  rw [toRo_nth]; rfl

theorem snapB (b : Brd) (L : List V) :
    V.agg [.ro 5 b.r.ter.length fun i j => toRo (nth (b.r.ter.getD i Ter.d).cw j), .ro 6 b.r.knd.length fun i j => toRo (nth (b.r.knd.getD i Knd.d).cs j), cI b.r.stack, cI b.r.river, cI b.r.road, cI b.r.supply, cI b.r.turns,
      cI b.m.w, cI b.m.h, roI b.m.ter, roI b.m.riv, roI b.m.roa] :: L = V.agg b.cs :: L := by rw [snapT, snapK]

theorem snapBB (b : Brd) :
    [V.agg [.ro 5 b.r.ter.length fun i j => toRo (nth (b.r.ter.getD i Ter.d).cw j), .ro 6 b.r.knd.length fun i j => toRo (nth (b.r.knd.getD i Knd.d).cs j), cI b.r.stack, cI b.r.river, cI b.r.road, cI b.r.supply, cI b.r.turns,
      cI b.m.w, cI b.m.h, roI b.m.ter, roI b.m.riv, roI b.m.roa],
     V.agg [.ro 5 b.r.ter.length fun i j => toRo (nth (b.r.ter.getD i Ter.d).cw j), .ro 6 b.r.knd.length fun i j => toRo (nth (b.r.knd.getD i Knd.d).cs j), cI b.r.stack, cI b.r.river, cI b.r.road, cI b.r.supply, cI b.r.turns,
      cI b.m.w, cI b.m.h, roI b.m.ter, roI b.m.riv, roI b.m.roa]] = [V.agg b.cs, V.agg b.cs] := by rw [snapT, snapK]

theorem sub1_sm {left n : Int} (h : ¬ sub1 left n < 0) : n ≤ left ∧ sub1 left n = left - n := by
  unfold sub1 at h ⊢
  by_cases g : left - n < 0
  · rw [if_pos g] at h; omega
  · rw [if_neg g]; omega

theorem szL_sm {α : Type} {f : α → Int → Int} {p : α → Prop} (hf : ∀ a x, 0 ≤ x → x ≤ 1048576 → ¬ f a x < 0 → p a ∧ f a x ≤ 1048576) : ∀ (l : List α) (x : Int), 0 ≤ x → x ≤ 1048576 → ¬ szL f l x < 0 → ∀ a ∈ l, p a
  | [], _, _, _, _, _, h => by cases h
  | a :: l, x, h0, h1, h, b, hb => by
    unfold szL at h
    by_cases g : f a x < 0
    · rw [if_pos g] at h; omega
    · rw [if_neg g] at h
      obtain ⟨c1, c2⟩ := hf a x h0 h1 g
      rcases List.mem_cons.1 hb with rfl | hb
      · exact c1
      · exact szL_sm hf l _ (by omega) c2 h b hb

theorem szS_sm {α : Type} {f : α → Int → Int} {p : α → Prop} (hf : ∀ a x, 0 ≤ x → x ≤ 1048576 → ¬ f a x < 0 → p a ∧ f a x ≤ 1048576) (l : List α) (x : Int) (h0 : 0 ≤ x) (h1 : x ≤ 1048576) (h : ¬ szS f l x < 0) : l.length ≤ 1048576 ∧ ∀ a ∈ l, p a := by
  unfold szS at h
  by_cases g : x - l.length < 0
  · rw [if_pos g] at h; omega
  · rw [if_neg g] at h
    exact ⟨by omega, szL_sm hf l _ (by omega) (by omega) h⟩

theorem szT_sm {t : Ter} {x : Int} (h0 : 0 ≤ x) (h1 : x ≤ 1048576) (h : ¬ szT t x < 0) : t.cost.length ≤ 1048576 ∧ szT t x ≤ 1048576 := by
  refine ⟨?_, (szT_b h0 h1).1⟩
  unfold szT at h
  by_cases g : x - t.name.size < 0
  · rw [if_pos g] at h; omega
  · rw [if_neg g] at h
    have := (sub1_sm h).1
    omega

theorem szB_sm {b : Brd} {x : Int} (h0 : 0 ≤ x) (h1 : x ≤ 1048576) (h : ¬ szB b x < 0) : b.Sm ∧ szB b x ≤ 1048576 := by
  unfold szB at h ⊢
  by_cases g : szR b.r x < 0
  · rw [if_pos g] at h; omega
  rw [if_neg g] at h ⊢
  by_cases g2 : szM b.m (szR b.r x) < 0
  · rw [if_pos g2] at h; omega
  rw [if_neg g2]
  clear h
  have gb := szR_b (r := b.r) h0 h1
  unfold szR at g
  by_cases e1 : szS szT b.r.ter x < 0
  · rw [if_pos e1] at g; omega
  rw [if_neg e1] at g
  by_cases e2 : szS szK b.r.knd (szS szT b.r.ter x) < 0
  · rw [if_pos e2] at g; omega
  have b1 := szS_b (f := szT) (fun t x a b => (szT_b a b).1) b.r.ter h0 h1
  have k1 := szS_sm (p := fun t : Ter => t.cost.length ≤ 1048576) (fun a x h0 h1 h => szT_sm h0 h1 h) b.r.ter x h0 h1 e1
  have k2 := szS_sm (f := szK) (p := fun _ => True) (fun a x h0 h1 h => ⟨trivial, (szK_b h0 h1).1⟩) b.r.knd _ (by omega) b1 e2
  unfold szM at g2 ⊢
  generalize szR b.r x = y at *
  by_cases e3 : sub1 y b.m.ter.length < 0
  · rw [if_pos e3] at g2; omega
  rw [if_neg e3] at g2 ⊢
  by_cases e4 : sub1 (sub1 y b.m.ter.length) b.m.riv.length < 0
  · rw [if_pos e4] at g2; omega
  rw [if_neg e4] at g2 ⊢
  have m1 := sub1_sm e3
  have m2 := sub1_sm e4
  have m3 := sub1_sm g2
  exact ⟨⟨⟨k1.1, k1.2, k2.1⟩, ⟨by omega, by omega, by omega⟩⟩, by omega⟩

/-- a board that is as it should be, with a hex of that number -/
def okPl (b : Brd) (i : Int) : Bool := okBrd b && In i 0 (b.m.w * b.m.h - 1)

theorem bAt0_eq {b : Brd} (ho : b.Ok) (i : Int) : (okBrd b && In 0 0 (b.r.knd.length - 1) && In i 0 (b.m.w * b.m.h - 1)) = okPl b i := by
  unfold okPl
  cases e : okBrd b with
  | false => rfl
  | true =>
    have g := GB.of ho e
    have h1 := g.k1
    have : In 0 0 (b.r.knd.length - 1) = true := decide_eq_true (by omega)
    rw [this]; rfl

theorem F_bAt0 (b : Brd) (ho : b.Ok) (i : Int) : Fun E0 61 [.agg b.cs, vI 0, vI i] [] (.v (vB (okPl b i))) [] [] := bAt0_eq ho i ▸ F_bAt b ho 0 i

structure PlOk (b : Brd) (i : Int) : Prop where
  gb : GB b
  i0 : 0 ≤ i
  i1 : i < b.m.ter.length

theorem PlOk.of {b : Brd} (ho : b.Ok) {i : Int} (h : okPl b i = true) : PlOk b i := by
  simp only [okPl, Bool.and_eq_true] at h
  have g := GB.of ho h.1
  have a := of_decide_eq_true h.2
  have := g.n
  exact ⟨g, by omega, by omega⟩

def okPr (b : Brd) (i k : Int) : Bool := okPl b i && okPl b k

theorem F_vPair (b : Brd) (ho : b.Ok) (i k : Int) : Fun E0 41 [.agg b.cs, vI i, vI k] [] (.v (vB (okPr b i k))) [] [] := by
  refine Fun_of_xc k41 rfl rfl (fun k q h => by cases h) ?_
  ((conv=>whnf);repeat((first|refine Ct ‹_› ?_|refine Cf ‹_› ?_|refine Ct rfl ?_|refine Cf rfl ?_|refine Bi rfl ?_|refine Bz rfl ?_|refine Lr ?_);conv=>whnf))
  (refine CallQ_some (F_bAt0 b ho i) ?_ ?_ ?_; rfl; rfl); ((conv=>whnf);repeat((first|refine Ct ‹_› ?_|refine Cf ‹_› ?_|refine Ct rfl ?_|refine Cf rfl ?_|refine Bi rfl ?_|refine Bz rfl ?_|refine Lr ?_);conv=>whnf))
  refine Cnd_i (fun g => ?_) (fun g => ?_)
  · ((conv=>whnf);repeat((first|refine Ct ‹_› ?_|refine Cf ‹_› ?_|refine Ct rfl ?_|refine Cf rfl ?_|refine Bi rfl ?_|refine Bz rfl ?_|refine Lr ?_);conv=>whnf))
    (refine CallQ_some (F_bAt0 b ho k) ?_ ?_ ?_; rfl; rfl); ((conv=>whnf);repeat((first|refine Ct ‹_› ?_|refine Cf ‹_› ?_|refine Ct rfl ?_|refine Cf rfl ?_|refine Bi rfl ?_|refine Bz rfl ?_|refine Lr ?_);conv=>whnf))
    refine ⟨?_, rfl, rfl⟩
    rw [okPr, g]; rfl
  · ((conv=>whnf);repeat((first|refine Ct ‹_› ?_|refine Cf ‹_› ?_|refine Ct rfl ?_|refine Cf rfl ?_|refine Bi rfl ?_|refine Bz rfl ?_|refine Lr ?_);conv=>whnf))
    refine ⟨?_, rfl, rfl⟩
    rw [okPr, g]; rfl

theorem F_isPair (b : Brd) (ho : b.Ok) (i k : Int) : Fun E0 43 [.agg b.cs, vI i, vI k] [] (.v (vB (okPr b i k))) [] [] := by
  have hlt : b.m.ter.length ≤ 9223372036854775807 := ho.m.ter.len
  refine Fun_of_xc k43 rfl rfl (fun k q h => by cases h) ?_
  ((conv=>whnf);repeat((first|refine Ct ‹_› ?_|refine Cf ‹_› ?_|refine Ct rfl ?_|refine Cf rfl ?_|refine Bi rfl ?_|refine Bz rfl ?_|refine Lr ?_);conv=>whnf))
  (refine CallQ_some (F_IsBoard b ho) ?_ ?_ ?_; rfl; rfl); ((conv=>whnf);repeat((first|refine Ct ‹_› ?_|refine Cf ‹_› ?_|refine Ct rfl ?_|refine Cf rfl ?_|refine Bi rfl ?_|refine Bz rfl ?_|refine Lr ?_);conv=>whnf))
  refine Cnd_i (fun g => ?_) (fun g => ?_)
  · have hn := (GB.of ho g).n
    ((conv=>whnf);repeat((first|refine Ct ‹_› ?_|refine Cf ‹_› ?_|refine Ct rfl ?_|refine Cf rfl ?_|refine Bi rfl ?_|refine Bz rfl ?_|refine Lr ?_);conv=>whnf))
    (refine CallQ_some (F_sizeOf b) ?_ ?_ ?_; rfl; rfl); ((conv=>whnf);repeat((first|refine Ct ‹_› ?_|refine Cf ‹_› ?_|refine Ct rfl ?_|refine Cf rfl ?_|refine Bi rfl ?_|refine Bz rfl ?_|refine Lr ?_);conv=>whnf))
    (refine CallQ_some (F_isIndex _ _ (by unfold i64; omega)) ?_ ?_ ?_; rfl; rfl); ((conv=>whnf);repeat((first|refine Ct ‹_› ?_|refine Cf ‹_› ?_|refine Ct rfl ?_|refine Cf rfl ?_|refine Bi rfl ?_|refine Bz rfl ?_|refine Lr ?_);conv=>whnf))
    refine Cnd_i (fun g2 => ?_) (fun g2 => ?_)
    · ((conv=>whnf);repeat((first|refine Ct ‹_› ?_|refine Cf ‹_› ?_|refine Ct rfl ?_|refine Cf rfl ?_|refine Bi rfl ?_|refine Bz rfl ?_|refine Lr ?_);conv=>whnf))
      (refine CallQ_some (F_sizeOf b) ?_ ?_ ?_; rfl; rfl); ((conv=>whnf);repeat((first|refine Ct ‹_› ?_|refine Cf ‹_› ?_|refine Ct rfl ?_|refine Cf rfl ?_|refine Bi rfl ?_|refine Bz rfl ?_|refine Lr ?_);conv=>whnf))
      (refine CallQ_some (F_isIndex _ _ (by unfold i64; omega)) ?_ ?_ ?_; rfl; rfl); ((conv=>whnf);repeat((first|refine Ct ‹_› ?_|refine Cf ‹_› ?_|refine Ct rfl ?_|refine Cf rfl ?_|refine Bi rfl ?_|refine Bz rfl ?_|refine Lr ?_);conv=>whnf))
      refine ⟨?_, rfl, rfl⟩
      rw [hn] at g2 ⊢
      rw [okPr, okPl, okPl, g, g2]; rfl
    · ((conv=>whnf);repeat((first|refine Ct ‹_› ?_|refine Cf ‹_› ?_|refine Ct rfl ?_|refine Cf rfl ?_|refine Bi rfl ?_|refine Bz rfl ?_|refine Lr ?_);conv=>whnf))
      refine ⟨?_, rfl, rfl⟩
      rw [hn] at g2
      rw [okPr, okPl, okPl, g, g2]; rfl
  · ((conv=>whnf);repeat((first|refine Ct ‹_› ?_|refine Cf ‹_› ?_|refine Ct rfl ?_|refine Cf rfl ?_|refine Bi rfl ?_|refine Bz rfl ?_|refine Lr ?_);conv=>whnf))
    refine ⟨?_, rfl, rfl⟩
    rw [okPr, okPl, g]; rfl

theorem F_l1Most (a c : Int) : Fun E0 140 [vI a, vI c] [] (.v (vI (max a c))) [] [] := by
  refine Fun_of_xc k140 rfl rfl (fun k q h => by cases h) ?_
  ((conv=>whnf);repeat((first|refine Ct ‹_› ?_|refine Cf ‹_› ?_|refine Ct rfl ?_|refine Cf rfl ?_|refine Bi rfl ?_|refine Bz rfl ?_|refine Lr ?_);conv=>whnf))
  refine Cnd_i (fun g => ?_) (fun g => ?_)
  · have g := of_decide_eq_true g
    ((conv=>whnf);repeat((first|refine Ct ‹_› ?_|refine Cf ‹_› ?_|refine Ct rfl ?_|refine Cf rfl ?_|refine Bi rfl ?_|refine Bz rfl ?_|refine Lr ?_);conv=>whnf))
    refine ⟨?_, rfl, rfl⟩
    rw [show max a c = a by omega]; rfl
  · have g := of_decide_eq_false g
    ((conv=>whnf);repeat((first|refine Ct ‹_› ?_|refine Cf ‹_› ?_|refine Ct rfl ?_|refine Cf rfl ?_|refine Bi rfl ?_|refine Bz rfl ?_|refine Lr ?_);conv=>whnf))
    refine ⟨?_, rfl, rfl⟩
    rw [show max a c = c by omega]; rfl

/-- the last digit, as a letter -/
def db (k : Int) : UInt8 := UInt8.ofNat (48 + k.toNat % 10)

theorem db_nat (k : Int) : (db k).toNat = 48 + k.toNat % 10 := by
  unfold db
  rw [UInt8.toNat_ofNat']
  omega

theorem wrapU8 {n : Int} (h : 0 ≤ n ∧ n ≤ 255) : IntKind.u8.wrap n = n := by
  unfold IntKind.wrap
  have : IntKind.u8.bits = 8 := rfl
  simp [IntKind.signed, IntKind.bits]
  omega

theorem db_wrap {k : Int} (h0 : 0 ≤ k) (h1 : k ≤ 1152921504606846976) : IntKind.u8.wrap (IntKind.i64.wrap (48 + k.tmod 10)) = ((db k).toNat : Int) := by
  rw [Int.tmod_eq_emod_of_nonneg h0, wrapI (by omega), wrapU8 (by omega), db_nat]
  omega

def digs : Nat → Int → ByteArray → ByteArray
  | 0, _, acc => acc
  | n + 1, k, acc => if k > 0 then digs n (k.tdiv 10) (⟨#[db k]⟩ ++ acc) else acc

theorem F_markText (k : Int) (hk : k ≤ 1152921504606846976) : ∃ s, Fun E0 109 [vI k] [] (.v (vS s)) [] [] := by
  by_cases h0 : k ≤ 0
  · refine ⟨⟨#[109, 48]⟩, ?_⟩
    refine Fun_of_xc k109 rfl rfl (fun k q h => by cases h) ?_
    ((conv=>whnf);repeat((first|refine Ct ‹_› ?_|refine Cf ‹_› ?_|refine Ct rfl ?_|refine Cf rfl ?_|refine Bi rfl ?_|refine Bz rfl ?_|refine Lr ?_);conv=>whnf))
    refine Cnd_t (decide_eq_true h0) ?_
    ((conv=>whnf);repeat((first|refine Ct ‹_› ?_|refine Cf ‹_› ?_|refine Ct rfl ?_|refine Cf rfl ?_|refine Bi rfl ?_|refine Bz rfl ?_|refine Lr ?_);conv=>whnf))
    exact ⟨rfl, rfl, rfl⟩
  · refine ⟨⟨#[109]⟩ ++ digs k.toNat k ⟨#[]⟩, ?_⟩
    refine Fun_of_xc k109 rfl rfl (fun k q h => by cases h) ?_
    ((conv=>whnf);repeat((first|refine Ct ‹_› ?_|refine Cf ‹_› ?_|refine Ct rfl ?_|refine Cf rfl ?_|refine Bi rfl ?_|refine Bz rfl ?_|refine Lr ?_);conv=>whnf))
    refine Cnd_f (decide_eq_false h0) ?_
    ((conv=>whnf);repeat((first|refine Ct ‹_› ?_|refine Cf ‹_› ?_|refine Ct rfl ?_|refine Cf rfl ?_|refine Bi rfl ?_|refine Bz rfl ?_|refine Lr ?_);conv=>whnf))
    refine WLoop_v ⟨[0, 3], [], []⟩ (fun x : Int × ByteArray => hdS 20 [(0, .v (vI x.1)), (3, .v (vS x.2))] [] [])
      (fun n x => 0 ≤ x.1 ∧ x.1 ≤ n ∧ n ≤ k ∧ (x.2.size : Int) + n ≤ k ∧ digs n x.1 x.2 = digs k.toNat k ⟨#[]⟩) k.toNat (k, ⟨#[]⟩) rfl ⟨by omega, by omega, by omega, by show (0 : Int) + _ ≤ _; omega, rfl⟩ ?_
    rintro n ⟨y, acc⟩ ⟨h1, h2, h3, h4, h5⟩
    simp only at h1 h2 h4 h5
    ((conv=>whnf);repeat((first|refine Ct ‹_› ?_|refine Cf ‹_› ?_|refine Ct rfl ?_|refine Cf rfl ?_|refine Bi rfl ?_|refine Bz rfl ?_|refine Lr ?_);conv=>whnf))
    refine Cnd_i (fun g => ?_) (fun g => ?_)
    · have g := of_decide_eq_true g
      ((conv=>whnf);repeat((first|refine Ct ‹_› ?_|refine Cf ‹_› ?_|refine Ct rfl ?_|refine Cf rfl ?_|refine Bi rfl ?_|refine Bz rfl ?_|refine Lr ?_);conv=>whnf))
      refine Rw_self ?_
      ((conv=>whnf);repeat((first|refine Ct ‹_› ?_|refine Cf ‹_› ?_|refine Ct rfl ?_|refine Cf rfl ?_|refine Bi rfl ?_|refine Bz rfl ?_|refine Lr ?_);conv=>whnf))
      refine Bts_i [db y] (by simp) rfl (fun i b hi => ?_) ?_
      · cases i with
        | zero =>
          simp at hi
          subst hi
          show Cell.int .u8 (IntKind.u8.wrap (IntKind.i64.wrap (48 + y.tmod 10))) = _
          rw [db_wrap h1 (by omega)]
        | succ i => simp at hi
      ((conv=>whnf);repeat((first|refine Ct ‹_› ?_|refine Cf ‹_› ?_|refine Ct rfl ?_|refine Cf rfl ?_|refine Bi rfl ?_|refine Bz rfl ?_|refine Lr ?_);conv=>whnf))
      have hsz : (⟨#[db y]⟩ : ByteArray).size = 1 := rfl
      refine Bnd_i ?_ ?_
      · show (⟨#[db y]⟩ : ByteArray).size + acc.size < _
        omega
      ((conv=>whnf);repeat((first|refine Ct ‹_› ?_|refine Cf ‹_› ?_|refine Ct rfl ?_|refine Cf rfl ?_|refine Bi rfl ?_|refine Bz rfl ?_|refine Lr ?_);conv=>whnf))
      obtain ⟨m, rfl⟩ : ∃ m, n = m + 1 := ⟨n - 1, by omega⟩
      refine ⟨m, (y.tdiv 10, ⟨#[db y]⟩ ++ acc), ?_, by omega, ?_⟩
      · rw [wrapI (by rw [Int.tdiv_eq_ediv_of_nonneg h1]; omega)]; rfl
      · have e1 : y.tdiv 10 = y / 10 := Int.tdiv_eq_ediv_of_nonneg h1
        refine ⟨by rw [e1]; omega, by rw [e1]; omega, by omega, ?_, ?_⟩
        · show ((⟨#[db y]⟩ ++ acc : ByteArray).size : Int) + m ≤ k
          rw [ByteArray.size_append, hsz]; omega
        · rw [digs, if_pos g] at h5
          exact h5
    · have g := of_decide_eq_false g
      ((conv=>whnf);repeat((first|refine Ct ‹_› ?_|refine Cf ‹_› ?_|refine Ct rfl ?_|refine Cf rfl ?_|refine Bi rfl ?_|refine Bz rfl ?_|refine Lr ?_);conv=>whnf))
      have h6 : acc = digs k.toNat k ⟨#[]⟩ := by
        rw [← h5]
        cases n with
        | zero => rfl
        | succ m => rw [digs, if_neg g]
      refine Bnd_i ?_ ?_
      · show (⟨#[109]⟩ : ByteArray).size + acc.size < _
        have : (⟨#[109]⟩ : ByteArray).size = 1 := rfl
        omega
      ((conv=>whnf);repeat((first|refine Ct ‹_› ?_|refine Cf ‹_› ?_|refine Ct rfl ?_|refine Cf rfl ?_|refine Bi rfl ?_|refine Bz rfl ?_|refine Lr ?_);conv=>whnf))
      rw [h6]
      exact ⟨rfl, rfl, rfl⟩

/-- the numbers from k on -/
def upt (k : Int) (n : Nat) : List Int := (List.range n).map fun i : Nat => k + (i : Int)

theorem upt_len (k : Int) (n : Nat) : (upt k n).length = n := by simp [upt]

theorem upt_get {k : Int} {n i : Nat} (h : i < n) : (upt k n).getD i 0 = k + i := by simp [upt, h]

/-- a row of numbers, told by its places -/
abbrev rwF (n : Nat) (f : Nat → Int) : Row := ⟨false, 1, n, fun i _ => cI (f i)⟩

abbrev P0 : Nat := 1000000

theorem mark_upt (l : List Int) (k : Int) : (fun i => if i < l.length then k + (i : Int) else l.getD i 0) = fun i => (upt k l.length).getD i 0 := by
  funext i
  by_cases e : i < l.length
  · rw [if_pos e, upt_get e]
  · rw [if_neg e, List.getD_eq_getElem?_getD, List.getD_eq_getElem?_getD, List.getElem?_eq_none (by omega), List.getElem?_eq_none (by rw [upt_len]; omega)]

theorem F_markIntS (l : List Int) (k : Int) (hl : l.length ≤ 1048576) (h0 : 0 ≤ k) (hk : k ≤ 1152921504606846976) :
    Fun E0 14 [.one (.own P0 l.length), vI k] [(P0, rwI l)] (.v (vI (k + l.length))) [] [(P0, rwF l.length fun i => (upt k l.length).getD i 0)] := by
  rw [← mark_upt]
  refine Fun_of_xc k14 rfl rfl (nrC (fun _ _ _ _ => rfl) nrN) ?_
  ((conv=>whnf);repeat((first|refine Ct ‹_› ?_|refine Cf ‹_› ?_|refine Ct rfl ?_|refine Cf rfl ?_|refine Bi rfl ?_|refine Bz rfl ?_|refine Lr ?_);conv=>whnf))
  refine WLoop_v ⟨[0, 1, 5], [], []⟩ (fun i : Int => hdS 19 [(0, .v (.one (.own P0 l.length))), (1, .v (vI (k + i))), (5, .v (vI i))] [] [(P0, rwF l.length fun j => if (j : Int) < i then k + j else l.getD j 0)])
    (fun n i => 0 ≤ i ∧ i + n = l.length) l.length 0 ?_ ⟨by omega, by omega⟩ ?_
  · have e : (fun j : Nat => if (j : Int) < 0 then k + j else l.getD j 0) = fun j => l.getD j 0 := by funext j; rw [if_neg (by omega)]
    rw [e, show k + 0 = k by omega]; rfl
  rintro n i ⟨h1, h2⟩
  ((conv=>whnf);repeat((first|refine Ct ‹_› ?_|refine Cf ‹_› ?_|refine Ct rfl ?_|refine Cf rfl ?_|refine Bi rfl ?_|refine Bz rfl ?_|refine Lr ?_);conv=>whnf))
  refine Cnd_i (fun h => ?_) (fun h => ?_)
  · have hi' : i < l.length := of_decide_eq_true h
    ((conv=>whnf);repeat((first|refine Ct ‹_› ?_|refine Cf ‹_› ?_|refine Ct rfl ?_|refine Cf rfl ?_|refine Bi rfl ?_|refine Bz rfl ?_|refine Lr ?_);conv=>whnf))
    refine Bnd_i (⟨h1, hi'⟩) ?_; ((conv=>whnf);repeat((first|refine Ct ‹_› ?_|refine Cf ‹_› ?_|refine Ct rfl ?_|refine Cf rfl ?_|refine Bi rfl ?_|refine Bz rfl ?_|refine Lr ?_);conv=>whnf))
    refine Rw_i (rwF l.length fun j => if (j : Int) < i + 1 then k + j else l.getD j 0) ⟨rfl, rfl, rfl, fun i' j hi hj => ?_⟩ ?_
    · have hj : j < 1 := hj
      obtain rfl : j = 0 := by omega
      show wrG (fun i' _ => cI (if (i' : Int) < i then k + i' else l.getD i' 0)) i.toNat 0 [cI (k + i)] i' 0 = cI (if (i' : Int) < i + 1 then k + i' else l.getD i' 0)
      by_cases e : i' = i.toNat
      · subst e
        rw [wrG_in (by simp), if_pos (by omega), show ((i.toNat : Nat) : Int) = i by omega]; rfl
      · rw [wrG_out (fun hh => e hh.1)]
        show cI (if (i' : Int) < i then k + i' else l.getD i' 0) = _
        by_cases e2 : (i' : Int) < i
        · rw [if_pos e2, if_pos (by omega)]
        · rw [if_neg e2, if_neg (by omega)]
    ((conv=>whnf);repeat((first|refine Ct ‹_› ?_|refine Cf ‹_› ?_|refine Ct rfl ?_|refine Cf rfl ?_|refine Bi rfl ?_|refine Bz rfl ?_|refine Lr ?_);conv=>whnf))
    refine ⟨n - 1, i + 1, ?_, ?_, ?_, ?_⟩
    · rw [wrapI (n := i + 1) (by omega), wrapI (n := k + i + 1) (by omega), show k + i + 1 = k + (i + 1) by omega]; rfl
    · omega
    · omega
    · omega
  · have hi' := of_decide_eq_false h
    ((conv=>whnf);repeat((first|refine Ct ‹_› ?_|refine Cf ‹_› ?_|refine Ct rfl ?_|refine Cf rfl ?_|refine Bi rfl ?_|refine Bz rfl ?_|refine Lr ?_);conv=>whnf))
    obtain rfl : i = (l.length : Int) := by omega
    have e : (fun j : Nat => if (j : Int) < l.length then k + j else l.getD j 0) = fun j => if j < l.length then k + j else l.getD j 0 := by
      funext j
      by_cases e : j < l.length
      · rw [if_pos e, if_pos (by omega)]
      · rw [if_neg e, if_neg (by omega)]
    rw [e]
    exact ⟨rfl, rfl, rfl⟩

theorem F_heldIntS (k : Int) (n : Nat) (hn : n ≤ 1048576) (h0 : 0 ≤ k) (hk : k ≤ 1152921504606846976) : Fun E0 15 [.one (.ro 1 n fun i _ => cI ((upt k n).getD i 0)), vI k] [] (.v (vI (k + n))) [] [] := by
  refine Fun_of_xc k15 rfl rfl (fun k q h => by cases h) ?_
  ((conv=>whnf);repeat((first|refine Ct ‹_› ?_|refine Cf ‹_› ?_|refine Ct rfl ?_|refine Cf rfl ?_|refine Bi rfl ?_|refine Bz rfl ?_|refine Lr ?_);conv=>whnf))
  refine WLoop_v ⟨[0, 1, 5], [], []⟩ (fun i : Int => hdS 21 [(0, .v (.one (.ro 1 n fun i _ => cI ((upt k n).getD i 0)))), (1, .v (vI (k + i))), (5, .v (vI i))] [] [])
    (fun m i => 0 ≤ i ∧ i + m = n) n 0 (by rw [show k + 0 = k by omega]; rfl) ⟨by omega, by omega⟩ ?_
  rintro m i ⟨h1, h2⟩
  ((conv=>whnf);repeat((first|refine Ct ‹_› ?_|refine Cf ‹_› ?_|refine Ct rfl ?_|refine Cf rfl ?_|refine Bi rfl ?_|refine Bz rfl ?_|refine Lr ?_);conv=>whnf))
  refine Cnd_i (fun h => ?_) (fun h => ?_)
  · have hi' : i < n := of_decide_eq_true h
    ((conv=>whnf);repeat((first|refine Ct ‹_› ?_|refine Cf ‹_› ?_|refine Ct rfl ?_|refine Cf rfl ?_|refine Bi rfl ?_|refine Bz rfl ?_|refine Lr ?_);conv=>whnf))
    refine Bnd_i (⟨h1, hi'⟩) ?_; ((conv=>whnf);repeat((first|refine Ct ‹_› ?_|refine Cf ‹_› ?_|refine Ct rfl ?_|refine Cf rfl ?_|refine Bi rfl ?_|refine Bz rfl ?_|refine Lr ?_);conv=>whnf))
    refine Cnd_f (by rw [upt_get (by omega)]; simp; omega) ?_
    ((conv=>whnf);repeat((first|refine Ct ‹_› ?_|refine Cf ‹_› ?_|refine Ct rfl ?_|refine Cf rfl ?_|refine Bi rfl ?_|refine Bz rfl ?_|refine Lr ?_);conv=>whnf))
    refine ⟨m - 1, i + 1, ?_, ?_, ?_, ?_⟩
    · rw [wrapI (n := i + 1) (by omega), wrapI (n := k + i + 1) (by omega), show k + i + 1 = k + (i + 1) by omega]; rfl
    · omega
    · omega
    · omega
  · have hi' := of_decide_eq_false h
    ((conv=>whnf);repeat((first|refine Ct ‹_› ?_|refine Cf ‹_› ?_|refine Ct rfl ?_|refine Cf rfl ?_|refine Bi rfl ?_|refine Bz rfl ?_|refine Lr ?_);conv=>whnf))
    obtain rfl : i = (n : Int) := by omega
    exact ⟨rfl, rfl, rfl⟩

theorem F_markMap (m : Map) (h : m.Sm) (k : Int) (h0 : 0 ≤ k) (hk : k ≤ 576460752303423488) :
    ∃ k' : Int, k ≤ k' ∧ k' ≤ k + 4194304 ∧ ∃ o : Ob, Shape [(P0 + 2, rwI m.ter), (P0 + 3, rwI m.riv), (P0 + 4, rwI m.roa)] o ∧
      Fun E0 40 [.agg [cI m.w, cI m.h, .own (P0 + 2) m.ter.length, .own (P0 + 3) m.riv.length, .own (P0 + 4) m.roa.length], vI k] [(P0 + 2, rwI m.ter), (P0 + 3, rwI m.riv), (P0 + 4, rwI m.roa)] (.v (vI k')) [] o := by
  have e1 := h.ter
  have e2 := h.riv
  have e3 := h.roa
  refine ⟨k + m.ter.length + m.riv.length + m.roa.length, by omega, by omega, [(P0 + 2, rwF m.ter.length fun i => (upt k m.ter.length).getD i 0), (P0 + 3, rwF m.riv.length fun i => (upt (k + m.ter.length) m.riv.length).getD i 0),
    (P0 + 4, rwF m.roa.length fun i => (upt (k + m.ter.length + m.riv.length) m.roa.length).getD i 0)], ⟨rfl, rfl, rfl, rfl, rfl, rfl, rfl, rfl, rfl, rfl, rfl, rfl, trivial⟩, ?_⟩
  refine Fun_of_xc k40 rfl rfl (nrC (fun _ _ _ _ => rfl) (nrC (fun _ _ _ _ => rfl) (nrC (fun _ _ _ _ => rfl) nrN))) ?_
  ((conv=>whnf);repeat((first|refine Ct ‹_› ?_|refine Cf ‹_› ?_|refine Ct rfl ?_|refine Cf rfl ?_|refine Bi rfl ?_|refine Bz rfl ?_|refine Lr ?_);conv=>whnf))
  (refine CallR_some (F_markIntS m.ter k h.ter h0 (by omega)) (by repeat (first | exact trivial | refine ⟨rfl, rfl, rfl, rfl, ?_⟩)) ?_ ?_ ?_ ?_; rfl; rfl; rfl); ((conv=>whnf);repeat((first|refine Ct ‹_› ?_|refine Cf ‹_› ?_|refine Ct rfl ?_|refine Cf rfl ?_|refine Bi rfl ?_|refine Bz rfl ?_|refine Lr ?_);conv=>whnf))
  (refine CallR_some (F_markIntS m.riv _ h.riv (by omega) (by omega)) (by repeat (first | exact trivial | refine ⟨rfl, rfl, rfl, rfl, ?_⟩)) ?_ ?_ ?_ ?_; rfl; rfl; rfl); ((conv=>whnf);repeat((first|refine Ct ‹_› ?_|refine Cf ‹_› ?_|refine Ct rfl ?_|refine Cf rfl ?_|refine Bi rfl ?_|refine Bz rfl ?_|refine Lr ?_);conv=>whnf))
  (refine CallR_some (F_markIntS m.roa _ h.roa (by omega) (by omega)) (by repeat (first | exact trivial | refine ⟨rfl, rfl, rfl, rfl, ?_⟩)) ?_ ?_ ?_ ?_; rfl; rfl; rfl); ((conv=>whnf);repeat((first|refine Ct ‹_› ?_|refine Cf ‹_› ?_|refine Ct rfl ?_|refine Cf rfl ?_|refine Bi rfl ?_|refine Bz rfl ?_|refine Lr ?_);conv=>whnf))
  exact ⟨rfl, rfl, rfl⟩

/-- marks: a number not far above comes back; the rows keep their shapes -/
def Mkd (k m : Int) (ob : Ob) (r : T) (obr obo : Ob) : Prop := ∃ k' : Int, k ≤ k' ∧ k' ≤ k + m ∧ r = .v (vI k') ∧ obr = [] ∧ Shape ob obo

theorem Rw_o {r : Row} {K : Row → Prop} (dp : Bool) (sz n : Nat) (hd : r.deep = dp) (hs : r.sz = sz) (hn : r.n = n) (h : ∀ g, (∀ i j, r.get i j = g i j) → K ⟨dp, sz, n, g⟩) : Rw r K :=
  Rw_i ⟨dp, sz, n, r.get⟩ ⟨hd, hs, hn, fun _ _ _ _ => rfl⟩ (h _ fun _ _ => rfl)

theorem F_markKindS (l : List Knd) (k : Int) (hl : l.length ≤ 1048576) (h0 : 0 ≤ k) (hk : k ≤ 4503599627370496) :
    FunE E0 79 [.one (.own P0 l.length), vI k] [(P0, rwK l)] (Mkd k 8388608 [(P0, rwK l)]) := by
  refine FunE_of_xc k79 rfl ?_ ?_
  · rintro r o o' ⟨k', _, _, rfl, rfl, hs⟩
    match o', hs with
    | [(p, q)], ⟨e, _⟩ => subst e; rfl
  ((conv=>whnf);repeat((first|refine Ct ‹_› ?_|refine Cf ‹_› ?_|refine Ct rfl ?_|refine Cf rfl ?_|refine Bi rfl ?_|refine Bz rfl ?_|refine Lr ?_);conv=>whnf))
  refine WLoop_v3 ⟨[0, 1, 5], [], []⟩ (fun (i y : Int) (g : Nat → Nat → Cell) => hdS 58 [(0, .v (.one (.own P0 l.length))), (1, .v (vI y)), (5, .v (vI i))] [] [(P0, ⟨false, 6, l.length, g⟩)])
    (fun n i y _ => 0 ≤ i ∧ i + n = l.length ∧ k ≤ y ∧ y ≤ k + 6 * i) l.length 0 k (rwK l).get rfl ⟨by omega, by omega, Int.le_refl k, by show k ≤ k + 6 * 0; omega⟩ ?_
  rintro n i y g ⟨h1, h2, h3, h4⟩
  ((conv=>whnf);repeat((first|refine Ct ‹_› ?_|refine Cf ‹_› ?_|refine Ct rfl ?_|refine Cf rfl ?_|refine Bi rfl ?_|refine Bz rfl ?_|refine Lr ?_);conv=>whnf))
  refine Cnd_i (fun h => ?_) (fun h => ?_)
  · have hi' : i < l.length := of_decide_eq_true h
    obtain ⟨s, hs⟩ := F_markText y (by omega)
    ((conv=>whnf);repeat((first|refine Ct ‹_› ?_|refine Cf ‹_› ?_|refine Ct rfl ?_|refine Cf rfl ?_|refine Bi rfl ?_|refine Bz rfl ?_|refine Lr ?_);conv=>whnf))
    (refine CallQ_some (hs) ?_ ?_ ?_; rfl; rfl); ((conv=>whnf);repeat((first|refine Ct ‹_› ?_|refine Cf ‹_› ?_|refine Ct rfl ?_|refine Cf rfl ?_|refine Bi rfl ?_|refine Bz rfl ?_|refine Lr ?_);conv=>whnf))
    refine Bnd_i (⟨h1, hi'⟩) ?_; ((conv=>whnf);repeat((first|refine Ct ‹_› ?_|refine Cf ‹_› ?_|refine Ct rfl ?_|refine Cf rfl ?_|refine Bi rfl ?_|refine Bz rfl ?_|refine Lr ?_);conv=>whnf))
    refine Rw_o false 6 l.length rfl rfl rfl (fun g1 _ => ?_)
    ((conv=>whnf);repeat((first|refine Ct ‹_› ?_|refine Cf ‹_› ?_|refine Ct rfl ?_|refine Cf rfl ?_|refine Bi rfl ?_|refine Bz rfl ?_|refine Lr ?_);conv=>whnf))
    rw [wrapI (n := y + 1) (by omega)]
    refine Bnd_i (⟨h1, hi'⟩) ?_; ((conv=>whnf);repeat((first|refine Ct ‹_› ?_|refine Cf ‹_› ?_|refine Ct rfl ?_|refine Cf rfl ?_|refine Bi rfl ?_|refine Bz rfl ?_|refine Lr ?_);conv=>whnf))
    refine Rw_o false 6 l.length rfl rfl rfl (fun g2 _ => ?_)
    ((conv=>whnf);repeat((first|refine Ct ‹_› ?_|refine Cf ‹_› ?_|refine Ct rfl ?_|refine Cf rfl ?_|refine Bi rfl ?_|refine Bz rfl ?_|refine Lr ?_);conv=>whnf))
    rw [wrapI (n := y + 1 + 1) (by omega)]
    refine Bnd_i (⟨h1, hi'⟩) ?_; ((conv=>whnf);repeat((first|refine Ct ‹_› ?_|refine Cf ‹_› ?_|refine Ct rfl ?_|refine Cf rfl ?_|refine Bi rfl ?_|refine Bz rfl ?_|refine Lr ?_);conv=>whnf))
    refine Rw_o false 6 l.length rfl rfl rfl (fun g3 _ => ?_)
    ((conv=>whnf);repeat((first|refine Ct ‹_› ?_|refine Cf ‹_› ?_|refine Ct rfl ?_|refine Cf rfl ?_|refine Bi rfl ?_|refine Bz rfl ?_|refine Lr ?_);conv=>whnf))
    rw [wrapI (n := y + 1 + 1 + 1) (by omega)]
    refine Bnd_i (⟨h1, hi'⟩) ?_; ((conv=>whnf);repeat((first|refine Ct ‹_› ?_|refine Cf ‹_› ?_|refine Ct rfl ?_|refine Cf rfl ?_|refine Bi rfl ?_|refine Bz rfl ?_|refine Lr ?_);conv=>whnf))
    refine Rw_o false 6 l.length rfl rfl rfl (fun g4 _ => ?_)
    ((conv=>whnf);repeat((first|refine Ct ‹_› ?_|refine Cf ‹_› ?_|refine Ct rfl ?_|refine Cf rfl ?_|refine Bi rfl ?_|refine Bz rfl ?_|refine Lr ?_);conv=>whnf))
    rw [wrapI (n := y + 1 + 1 + 1 + 1) (by omega)]
    refine Bnd_i (⟨h1, hi'⟩) ?_; ((conv=>whnf);repeat((first|refine Ct ‹_› ?_|refine Cf ‹_› ?_|refine Ct rfl ?_|refine Cf rfl ?_|refine Bi rfl ?_|refine Bz rfl ?_|refine Lr ?_);conv=>whnf))
    refine Rw_o false 6 l.length rfl rfl rfl (fun g5 _ => ?_)
    ((conv=>whnf);repeat((first|refine Ct ‹_› ?_|refine Cf ‹_› ?_|refine Ct rfl ?_|refine Cf rfl ?_|refine Bi rfl ?_|refine Bz rfl ?_|refine Lr ?_);conv=>whnf))
    rw [wrapI (n := y + 1 + 1 + 1 + 1 + 1) (by omega)]
    refine Bnd_i (⟨h1, hi'⟩) ?_; ((conv=>whnf);repeat((first|refine Ct ‹_› ?_|refine Cf ‹_› ?_|refine Ct rfl ?_|refine Cf rfl ?_|refine Bi rfl ?_|refine Bz rfl ?_|refine Lr ?_);conv=>whnf))
    refine Rw_o false 6 l.length rfl rfl rfl (fun g6 _ => ?_)
    ((conv=>whnf);repeat((first|refine Ct ‹_› ?_|refine Cf ‹_› ?_|refine Ct rfl ?_|refine Cf rfl ?_|refine Bi rfl ?_|refine Bz rfl ?_|refine Lr ?_);conv=>whnf))
    refine ⟨n - 1, i + 1, y + 1 + 1 + 1 + 1 + 1 + 1, g6, ?_, ?_, ?_⟩
    · rw [wrapI (n := i + 1) (by omega), wrapI (n := y + 1 + 1 + 1 + 1 + 1 + 1) (by omega)]; rfl
    · omega
    · exact ⟨by omega, by omega, by omega, by omega⟩
  · have hi' := of_decide_eq_false h
    ((conv=>whnf);repeat((first|refine Ct ‹_› ?_|refine Cf ‹_› ?_|refine Ct rfl ?_|refine Cf rfl ?_|refine Bi rfl ?_|refine Bz rfl ?_|refine Lr ?_);conv=>whnf))
    exact ⟨y, h3, by omega, rfl, rfl, rfl, rfl, rfl, rfl, trivial⟩

/-- a row of terrains -/
abbrev rwTn (n : Nat) (l : List Ter) : Row := ⟨true, 5, n, fun i j => nth (l.getD i Ter.d).cw j⟩

theorem lt5 {p : Nat → Prop} (h0 : p 0) (h1 : p 1) (h2 : p 2) (h3 : p 3) (h4 : p 4) : ∀ j, j < 5 → p j := by
  intro j hj
  match j, hj with
  | 0, _ => exact h0
  | 1, _ => exact h1
  | 2, _ => exact h2
  | 3, _ => exact h3
  | 4, _ => exact h4

theorem rwT_wr {n i o : Nat} {g : Nat → Nat → Cell} {c : Cell} {l : List Ter} {t' : Ter} (hi : i < l.length) (hg : ∀ i' j, i' ≠ i → g i' j = nth (l.getD i' Ter.d).cw j)
    (h : ∀ j, j < 5 → (if j = o then c else g i j) = nth t'.cw j) : RowEq ⟨true, 5, n, wrG g i o [c]⟩ (rwTn n (l.set i t')) := by
  refine ⟨rfl, rfl, rfl, fun i' j _ hj => ?_⟩
  have hj : j < 5 := hj
  show wrG g i o [c] i' j = nth ((l.set i t').getD i' Ter.d).cw j
  by_cases e : i' = i
  · subst e
    have e1 : (l.set i' t').getD i' Ter.d = t' := by simp [hi]
    rw [e1, ← h j hj]
    by_cases e2 : j = o
    · subst e2
      rw [wrG_in (by simp), if_pos rfl]; simp [nth]
    · rw [wrG_out (fun hh => e2 (by simp at hh; omega)), if_neg e2]
  · have e1 : (l.set i t').getD i' Ter.d = l.getD i' Ter.d := by simp [List.getElem?_set, Ne.symm e]
    rw [wrG_out (fun hh => e hh.1), hg i' j e, e1]

theorem set_len {l : List Ter} {i : Nat} {t' : Ter} {L : List Ter} (h : ∀ j, (l.getD j Ter.d).cost.length = (L.getD j Ter.d).cost.length) (ht : t'.cost.length = (l.getD i Ter.d).cost.length) :
    ∀ j, ((l.set i t').getD j Ter.d).cost.length = (L.getD j Ter.d).cost.length := by
  intro j
  rw [← h j]
  by_cases e : i = j
  · subst e
    by_cases hl : i < l.length
    · simp [hl, ht]
    · simp [hl]
  · simp [List.getElem?_set, e]

theorem Rw_T {n i o : Nat} {g : Nat → Nat → Cell} {c : Cell} {l L : List Ter} {N : Nat} {K : Row → Prop} (t' : Ter) (hi : i < l.length) (hg : ∀ i' j, i' ≠ i → g i' j = nth (l.getD i' Ter.d).cw j)
    (h : ∀ j, j < 5 → (if j = o then c else g i j) = nth t'.cw j) (hN : l.length = N) (hL : ∀ j, (l.getD j Ter.d).cost.length = (L.getD j Ter.d).cost.length) (ht : t'.cost.length = (l.getD i Ter.d).cost.length)
    (hk : ∀ l2 : List Ter, l2.length = N → (∀ j, (l2.getD j Ter.d).cost.length = (L.getD j Ter.d).cost.length) → K (rwTn n l2)) : Rw ⟨true, 5, n, wrG g i o [c]⟩ K :=
  Rw_i _ (rwT_wr hi hg h) (hk _ (by simp [hN]) (set_len hL ht))

theorem setC_ne {g : Nat → Nat → Cell} {i j : Nat} {c : Cell} {i' j' : Nat} (h : i' ≠ i) : setCell g i j c i' j' = g i' j' := by simp [setCell, beq_ne h]

theorem setC_eq {g : Nat → Nat → Cell} {i j : Nat} {c : Cell} {j' : Nat} : setCell g i j c i j' = if j' = j then c else g i j' := by
  by_cases e : j' = j
  · subst e; simp [setCell]
  · simp [setCell, beq_ne e, e]

theorem F_markTerrainS (l : List Ter) (k : Int) (hl : l.length ≤ 1048576) (hc : ∀ t ∈ l, t.cost.length ≤ 1048576) (h0 : 0 ≤ k) (hk : k ≤ 1073741824000000) :
    FunE E0 78 [.one (.own P0 l.length), vI k] [(P0, rwT l)] (Mkd k 1125899906842624 [(P0, rwT l)]) := by
  refine FunE_of_xc k78 rfl ?_ ?_
  · rintro r o o' ⟨k', _, _, rfl, rfl, hs⟩
    match o', hs with
    | [(p, q)], ⟨e, _⟩ => subst e; rfl
  ((conv=>whnf);repeat((first|refine Ct ‹_› ?_|refine Cf ‹_› ?_|refine Ct rfl ?_|refine Cf rfl ?_|refine Bi rfl ?_|refine Bz rfl ?_|refine Lr ?_);conv=>whnf))
  refine WLoop_v3 ⟨[0, 1, 5], [], []⟩ (fun (i y : Int) (g : List Ter) => hdS 51 [(0, .v (.one (.own P0 l.length))), (1, .v (vI y)), (5, .v (vI i))] [] [(P0, rwTn l.length g)])
    (fun n i y g => 0 ≤ i ∧ i + n = l.length ∧ k ≤ y ∧ y ≤ k + 1048580 * i ∧ g.length = l.length ∧ ∀ j, (g.getD j Ter.d).cost.length = (l.getD j Ter.d).cost.length) l.length 0 k l rfl
    ⟨by omega, by omega, by omega, by omega, rfl, fun _ => rfl⟩ ?_
  rintro n i y g ⟨h1, h2, h3, h4, h5, h6⟩
  ((conv=>whnf);repeat((first|refine Ct ‹_› ?_|refine Cf ‹_› ?_|refine Ct rfl ?_|refine Cf rfl ?_|refine Bi rfl ?_|refine Bz rfl ?_|refine Lr ?_);conv=>whnf))
  refine Cnd_i (fun h => ?_) (fun h => ?_)
  · have hi' : i < l.length := of_decide_eq_true h
    have hi2 : i.toNat < g.length := by omega
    have hLi : (g.getD i.toNat Ter.d).cost.length ≤ 1048576 := by
      rw [h6]; exact hc _ (getD_memT h1 hi')
    obtain ⟨s, hs⟩ := F_markText y (by omega)
    ((conv=>whnf);repeat((first|refine Ct ‹_› ?_|refine Cf ‹_› ?_|refine Ct rfl ?_|refine Cf rfl ?_|refine Bi rfl ?_|refine Bz rfl ?_|refine Lr ?_);conv=>whnf))
    (refine CallQ_some (hs) ?_ ?_ ?_; rfl; rfl); ((conv=>whnf);repeat((first|refine Ct ‹_› ?_|refine Cf ‹_› ?_|refine Ct rfl ?_|refine Cf rfl ?_|refine Bi rfl ?_|refine Bz rfl ?_|refine Lr ?_);conv=>whnf))
    refine Bnd_i (⟨h1, hi'⟩) ?_; ((conv=>whnf);repeat((first|refine Ct ‹_› ?_|refine Cf ‹_› ?_|refine Ct rfl ?_|refine Cf rfl ?_|refine Bi rfl ?_|refine Bz rfl ?_|refine Lr ?_);conv=>whnf))
    refine Rw_T { g.getD i.toNat Ter.d with name := s } hi2 (fun _ _ _ => rfl) (lt5 rfl rfl rfl rfl rfl) h5 h6 rfl (fun g1 h51 h61 => ?_)
    have hL1 : (g1.getD i.toNat Ter.d).cost.length ≤ 1048576 := by rw [h61, ← h6]; exact hLi
    ((conv=>whnf);repeat((first|refine Ct ‹_› ?_|refine Cf ‹_› ?_|refine Ct rfl ?_|refine Cf rfl ?_|refine Bi rfl ?_|refine Bz rfl ?_|refine Lr ?_);conv=>whnf))
    rw [wrapI (n := y + 1) (by omega)]
    refine Bnd_i (⟨h1, hi'⟩) ?_; ((conv=>whnf);repeat((first|refine Ct ‹_› ?_|refine Cf ‹_› ?_|refine Ct rfl ?_|refine Cf rfl ?_|refine Bi rfl ?_|refine Bz rfl ?_|refine Lr ?_);conv=>whnf))
    (refine CallR_some (F_markIntS (g1.getD i.toNat Ter.d).cost (y + 1) hL1 (by omega) (by omega)) (by repeat (first | exact trivial | refine ⟨rfl, rfl, rfl, rfl, ?_⟩)) ?_ ?_ ?_ ?_; rfl; rfl; rfl); ((conv=>whnf);repeat((first|refine Ct ‹_› ?_|refine Cf ‹_› ?_|refine Ct rfl ?_|refine Cf rfl ?_|refine Bi rfl ?_|refine Bz rfl ?_|refine Lr ?_);conv=>whnf))
    generalize hm : (g1.getD i.toNat Ter.d).cost.length = m at hL1 ⊢
    refine Bnd_i (⟨h1, hi'⟩) ?_; ((conv=>whnf);repeat((first|refine Ct ‹_› ?_|refine Cf ‹_› ?_|refine Ct rfl ?_|refine Cf rfl ?_|refine Bi rfl ?_|refine Bz rfl ?_|refine Lr ?_);conv=>whnf))
    refine Rw_T (l := g1) { g1.getD i.toNat Ter.d with cost := upt (y + 1) m, shift := y + 1 + m } (by omega) (fun _ _ hne => setC_ne hne) (lt5 (setC_eq.trans rfl) ?_ rfl (setC_eq.trans rfl) (setC_eq.trans rfl)) h51 h61 (by rw [← hm]; exact upt_len _ _) (fun g2 h52 h62 => ?_)
    · show setCell (rwTn l.length g1).get i.toNat 1 _ i.toNat 1 = _
      rw [setC_eq, if_pos rfl]
      show Cell.fr 1 m (fun i _ => cI ((upt (y + 1) m).getD i 0)) = Cell.fr 1 (upt (y + 1) m).length (fun i _ => cI ((upt (y + 1) m).getD i 0))
      rw [upt_len]
    ((conv=>whnf);repeat((first|refine Ct ‹_› ?_|refine Cf ‹_› ?_|refine Ct rfl ?_|refine Cf rfl ?_|refine Bi rfl ?_|refine Bz rfl ?_|refine Lr ?_);conv=>whnf))
    rw [wrapI (n := y + 1 + m + 1) (by omega)]
    refine Bnd_i (⟨h1, hi'⟩) ?_; ((conv=>whnf);repeat((first|refine Ct ‹_› ?_|refine Cf ‹_› ?_|refine Ct rfl ?_|refine Cf rfl ?_|refine Bi rfl ?_|refine Bz rfl ?_|refine Lr ?_);conv=>whnf))
    refine Rw_T (l := g2) { g2.getD i.toNat Ter.d with height := y + 1 + m + 1 } (by omega) (fun _ _ _ => rfl) (lt5 rfl rfl rfl rfl rfl) h52 h62 rfl (fun g3 h53 h63 => ?_)
    ((conv=>whnf);repeat((first|refine Ct ‹_› ?_|refine Cf ‹_› ?_|refine Ct rfl ?_|refine Cf rfl ?_|refine Bi rfl ?_|refine Bz rfl ?_|refine Lr ?_);conv=>whnf))
    rw [wrapI (n := y + 1 + m + 1 + 1) (by omega)]
    refine Bnd_i (⟨h1, hi'⟩) ?_; ((conv=>whnf);repeat((first|refine Ct ‹_› ?_|refine Cf ‹_› ?_|refine Ct rfl ?_|refine Cf rfl ?_|refine Bi rfl ?_|refine Bz rfl ?_|refine Lr ?_);conv=>whnf))
    refine Rw_T (l := g3) { g3.getD i.toNat Ter.d with blocks := ((y + 1 + m + 1 + 1).tmod 3 == 0) } (by omega) (fun _ _ _ => rfl) (lt5 rfl rfl rfl rfl rfl) h53 h63 rfl (fun g4 h54 h64 => ?_)
    ((conv=>whnf);repeat((first|refine Ct ‹_› ?_|refine Cf ‹_› ?_|refine Ct rfl ?_|refine Cf rfl ?_|refine Bi rfl ?_|refine Bz rfl ?_|refine Lr ?_);conv=>whnf))
    refine ⟨n - 1, i + 1, y + 1 + m + 1 + 1 + 1, g4, ?_, ?_, ?_⟩
    · rw [wrapI (n := i + 1) (by omega), wrapI (n := y + 1 + m + 1 + 1 + 1) (by omega)]; rfl
    · omega
    · exact ⟨by omega, by omega, by omega, by omega, h54, h64⟩
  · have hi' := of_decide_eq_false h
    ((conv=>whnf);repeat((first|refine Ct ‹_› ?_|refine Cf ‹_› ?_|refine Ct rfl ?_|refine Cf rfl ?_|refine Bi rfl ?_|refine Bz rfl ?_|refine Lr ?_);conv=>whnf))
    exact ⟨y, h3, by omega, rfl, rfl, rfl, rfl, rfl, rfl, trivial⟩

theorem F_markRules (r : Rul) (h : r.Sm) (k : Int) (h0 : 0 ≤ k) (hk : k ≤ 1048576) :
    FunE E0 39 [.agg [.own P0 r.ter.length, .own (P0 + 1) r.knd.length, cI r.stack, cI r.river, cI r.road, cI r.supply, cI r.turns], vI k] [(P0, rwT r.ter), (P0 + 1, rwK r.knd)]
      (Mkd k 1125899915231232 [(P0, rwT r.ter), (P0 + 1, rwK r.knd)]) := by
  refine FunE_of_xc k39 rfl ?_ ?_
  · rintro r o o' ⟨k', _, _, rfl, rfl, hs⟩
    match o', hs with
    | [(p, q), (p', q')], ⟨e, _, _, _, e', _⟩ => subst e; subst e'; rfl
  ((conv=>whnf);repeat((first|refine Ct ‹_› ?_|refine Cf ‹_› ?_|refine Ct rfl ?_|refine Cf rfl ?_|refine Bi rfl ?_|refine Bz rfl ?_|refine Lr ?_);conv=>whnf))
  refine CallR_e (F_markTerrainS r.ter k h.ter h.cost h0 (by omega)) ?_
  rintro _ _ o' ⟨k', h1, h2, rfl, rfl, hs⟩
  match o', hs with
  | [(p, q)], ⟨e, s1, s2, s3, _⟩ =>
    subst e
    refine ⟨⟨rfl, s1, s2, s3, trivial⟩, rfl, rfl, ?_⟩
    conv => whnf
    refine ⟨rfl, ?_⟩
    ((conv=>whnf);repeat((first|refine Ct ‹_› ?_|refine Cf ‹_› ?_|refine Ct rfl ?_|refine Cf rfl ?_|refine Bi rfl ?_|refine Bz rfl ?_|refine Lr ?_);conv=>whnf))
    refine CallR_e (F_markKindS r.knd k' h.knd (by omega) (by omega)) ?_
    rintro _ _ o' ⟨k2, h3, h4, rfl, rfl, hs⟩
    match o', hs with
    | [(p, q2)], ⟨e, t1, t2, t3, _⟩ =>
      subst e
      refine ⟨⟨rfl, t1, t2, t3, trivial⟩, rfl, rfl, ?_⟩
      conv => whnf
      refine ⟨rfl, ?_⟩
      ((conv=>whnf);repeat((first|refine Ct ‹_› ?_|refine Cf ‹_› ?_|refine Ct rfl ?_|refine Cf rfl ?_|refine Bi rfl ?_|refine Bz rfl ?_|refine Lr ?_);conv=>whnf))
      exact ⟨k2, by omega, by omega, rfl, rfl, rfl, s1, s2, s3, rfl, t1, t2, t3, trivial⟩

abbrev Brd.cp (b : Brd) : List Cell := [.own P0 b.r.ter.length, .own (P0 + 1) b.r.knd.length, cI b.r.stack, cI b.r.river, cI b.r.road, cI b.r.supply, cI b.r.turns, cI b.m.w, cI b.m.h, .own (P0 + 9) b.m.ter.length, .own (P0 + 10) b.m.riv.length, .own (P0 + 11) b.m.roa.length]

abbrev Brd.rowsP (b : Brd) : Ob := [(P0, rwT b.r.ter), (P0 + 1, rwK b.r.knd), (P0 + 9, rwI b.m.ter), (P0 + 10, rwI b.m.riv), (P0 + 11, rwI b.m.roa)]

theorem F_markBoard (b : Brd) (h : b.Sm) (k : Int) (h0 : 0 ≤ k) (hk : k ≤ 1048576) : FunE E0 13 [.agg b.cp, vI k] b.rowsP (Mkd k 1125899919425536 b.rowsP) := by
  refine FunE_of_xc k13 rfl ?_ ?_
  · rintro r o o' ⟨k', _, _, rfl, rfl, hs⟩
    match o', hs with
    | [(_, _), (_, _), (_, _), (_, _), (_, _)], ⟨e1, _, _, _, e2, _, _, _, e3, _, _, _, e4, _, _, _, e5, _⟩ => subst e1; subst e2; subst e3; subst e4; subst e5; rfl
  ((conv=>whnf);repeat((first|refine Ct ‹_› ?_|refine Cf ‹_› ?_|refine Ct rfl ?_|refine Cf rfl ?_|refine Bi rfl ?_|refine Bz rfl ?_|refine Lr ?_);conv=>whnf))
  refine CallR_e (F_markRules b.r h.r k h0 hk) ?_
  rintro _ _ o' ⟨k', h1, h2, rfl, rfl, hs⟩
  match o', hs with
  | [(p, q), (p', q')], ⟨e, s1, s2, s3, e', t1, t2, t3, _⟩ =>
    subst e
    subst e'
    refine ⟨⟨rfl, s1, s2, s3, rfl, t1, t2, t3, trivial⟩, rfl, rfl, ?_⟩
    conv => whnf
    refine ⟨rfl, ?_⟩
    ((conv=>whnf);repeat((first|refine Ct ‹_› ?_|refine Cf ‹_› ?_|refine Ct rfl ?_|refine Cf rfl ?_|refine Bi rfl ?_|refine Bz rfl ?_|refine Lr ?_);conv=>whnf))
    obtain ⟨k2, h3, h4, o2, hs2, hM⟩ := F_markMap b.m h.m k' (by omega) (by omega)
    match o2, hs2, hM with
    | [(_, q3), (_, q4), (_, q5)], ⟨e3, u1, u2, u3, e4, v1, v2, v3, e5, w1, w2, w3, _⟩, hM =>
      subst e3
      subst e4
      subst e5
      (refine CallR_some hM ⟨rfl, u1, u2, u3, rfl, v1, v2, v3, rfl, w1, w2, w3, trivial⟩ ?_ ?_ ?_ ?_; rfl; rfl; rfl); ((conv=>whnf);repeat((first|refine Ct ‹_› ?_|refine Cf ‹_› ?_|refine Ct rfl ?_|refine Cf rfl ?_|refine Bi rfl ?_|refine Bz rfl ?_|refine Lr ?_);conv=>whnf))
      exact ⟨k2, by omega, by omega, rfl, rfl, rfl, s1, s2, s3, rfl, t1, t2, t3, rfl, u1, u2, u3, rfl, v1, v2, v3, rfl, w1, w2, w3, trivial⟩

/-- a row of numbers to which one is appended -/
theorem rwI_app (l : List Int) (x : Int) (g : Nat → Nat → Cell) (h : g 0 0 = cI x) : RowEq (appRow (rwI l) 1 g) (rwI (l ++ [x])) := by
  refine ⟨rfl, rfl, by simp [appRow], fun i j hi hj => ?_⟩
  have hj : j < 1 := hj
  obtain rfl : j = 0 := by omega
  have hi : i < l.length + 1 := hi
  show (bif Nat.blt i l.length then cI (l.getD i 0) else g (i - l.length) 0) = cI ((l ++ [x]).getD i 0)
  by_cases e : i < l.length
  · have : Nat.blt i l.length = true := by simpa [Nat.blt_eq] using e
    rw [this]
    simp [List.getElem?_append, e]
  · have : Nat.blt i l.length = false := by
      rw [Bool.eq_false_iff]; intro h; exact e (by simpa [Nat.blt_eq] using h)
    rw [this, show i = l.length by omega]
    simp [h]

theorem rwI_nil (g : Nat → Nat → Cell) : RowEq ⟨false, 1, 0, g⟩ (rwI []) := ⟨rfl, rfl, rfl, fun i j hi _ => by simp at hi⟩

theorem shape5 {k0 k1 k2 k3 k4 : Nat} {a0 a1 a2 a3 a4 : Row} {o : Ob} (h : Shape [(k0, a0), (k1, a1), (k2, a2), (k3, a3), (k4, a4)] o) : ∃ q0 q1 q2 q3 q4 : Nat × Row, o = [q0, q1, q2, q3, q4] ∧ k0 = q0.1 ∧ k1 = q1.1 ∧ k2 = q2.1 ∧ k3 = q3.1 ∧ k4 = q4.1 ∧
    (q0.2.deep = a0.deep ∧ q0.2.sz = a0.sz ∧ q0.2.n = a0.n) ∧ (q1.2.deep = a1.deep ∧ q1.2.sz = a1.sz ∧ q1.2.n = a1.n) ∧ (q2.2.deep = a2.deep ∧ q2.2.sz = a2.sz ∧ q2.2.n = a2.n) ∧ (q3.2.deep = a3.deep ∧ q3.2.sz = a3.sz ∧ q3.2.n = a3.n) ∧ (q4.2.deep = a4.deep ∧ q4.2.sz = a4.sz ∧ q4.2.n = a4.n) := by
  match o, h with
  | [(_, _), (_, _), (_, _), (_, _), (_, _)], ⟨e1, u1, u2, u3, e2, v1, v2, v3, e3, w1, w2, w3, e4, x1, x2, x3, e5, y1, y2, y3, _⟩ =>
    exact ⟨_, _, _, _, _, rfl, e1, e2, e3, e4, e5, ⟨u1, u2, u3⟩, ⟨v1, v2, v3⟩, ⟨w1, w2, w3⟩, ⟨x1, x2, x3⟩, ⟨y1, y2, y3⟩⟩

structure Stt.Sm (s : Stt) : Prop where
  un : s.un.length ≤ 1048576

def okUnt (b : Brd) (u : Unt) : Bool := In u.side 0 1 && In u.kind 0 (b.r.knd.length - 1) && In u.ste 0 (b.r.knd.getD u.kind.toNat Knd.d).ste &&
  (u.at' == -1 || (decide (u.ste > 0) && In u.at' 0 (b.m.w * b.m.h - 1) && decide (costAt b u.kind u.at' > 0)))

structure UnOk (b : Brd) (u : Unt) : Prop where
  side : u.side = 0 ∨ u.side = 1
  kind : 0 ≤ u.kind ∧ u.kind < b.r.knd.length
  ste : 0 ≤ u.ste ∧ u.ste ≤ (b.r.knd.getD u.kind.toNat Knd.d).ste
  at' : u.at' = -1 ∨ (0 ≤ u.at' ∧ u.at' < b.m.ter.length ∧ 0 < u.ste ∧ 0 < costAt b u.kind u.at')

theorem UnOk.of {b : Brd} (h : GB b) {u : Unt} (hu : okUnt b u = true) : UnOk b u := by
  simp only [okUnt, Bool.and_eq_true, Bool.or_eq_true, beq_iff_eq] at hu
  obtain ⟨⟨⟨h1, h2⟩, h3⟩, h4⟩ := hu
  have a1 := of_decide_eq_true h1
  have a2 := of_decide_eq_true h2
  have a3 := of_decide_eq_true h3
  refine ⟨by omega, by omega, a3, ?_⟩
  rcases h4 with h4 | ⟨⟨h4, h5⟩, h6⟩
  · exact .inl h4
  · have a4 := of_decide_eq_true h4
    have a5 := of_decide_eq_true h5
    have a6 := of_decide_eq_true h6
    have := h.n
    exact .inr ⟨a5.1, by omega, a4, a6⟩

/-- the places of the first n units that are so -/
def selU (q : Unt → Bool) (us : List Unt) : Nat → List Int
  | 0 => []
  | n + 1 => if q (us.getD n Unt.d) = true then selU q us n ++ [(n : Int)] else selU q us n

def atQ (i side : Int) (u : Unt) : Bool := u.at' == i && u.side == side

/-- whose the first unit at a place is, -1 if there is none -/
def ownR (i : Int) : List Unt → Int
  | [] => -1
  | u :: l => if (u.at' == i) = true then u.side else ownR i l

/-! ### how many of a side stand at a place -/
def cnt (us : List Unt) (n : Nat) (i s : Int) : Int := (selU (atQ i s) us n).length

def stk (st : Int) (us : List Unt) : Prop := ∀ k, k < us.length → 0 ≤ (us.getD k Unt.d).at' → cnt us us.length (us.getD k Unt.d).at' (1 - (us.getD k Unt.d).side) = 0 ∧ cnt us us.length (us.getD k Unt.d).at' (us.getD k Unt.d).side ≤ st

noncomputable instance instStk (st : Int) (us : List Unt) : Decidable (stk st us) := Classical.propDecidable _

noncomputable def okSt (b : Brd) (s : Stt) : Bool := In s.turn 0 b.r.turns && In s.wea 0 2 && decide (s.un.length ≤ 12) && s.un.all (okUnt b) && @decide (stk b.r.stack s.un) (instStk b.r.stack s.un)

structure StOk (b : Brd) (s : Stt) : Prop where
  gb : GB b
  turn : 0 ≤ s.turn ∧ s.turn ≤ b.r.turns
  wea : 0 ≤ s.wea ∧ s.wea ≤ 2
  len : s.un.length ≤ 12
  un : ∀ u ∈ s.un, UnOk b u
  stk : stk b.r.stack s.un

theorem StOk.of {b : Brd} {s : Stt} (ho : b.Ok) (h : (okBrd b && okSt b s) = true) : StOk b s := by
  simp only [okSt, Bool.and_eq_true] at h
  obtain ⟨h0, ⟨⟨⟨h1, h2⟩, h3⟩, h4⟩, h5⟩ := h
  have g := GB.of ho h0
  exact ⟨g, of_decide_eq_true h1, of_decide_eq_true h2, of_decide_eq_true h3, fun u hu => UnOk.of g (List.all_eq_true.1 h4 u hu), of_decide_eq_true h5⟩

theorem StOk.side {b : Brd} {s : Stt} (h : StOk b s) {k : Nat} (hk : k < s.un.length) : (s.un.getD k Unt.d).side = 0 ∨ (s.un.getD k Unt.d).side = 1 := by
  refine (h.un _ ?_).side
  have := getD_memT (l := s.un) (d := Unt.d) (i := (k : Int)) (by omega) (by omega)
  rwa [Int.toNat_natCast] at this

theorem ownR_spec (i : Int) (us : List Unt) : ((∀ k, k < us.length → (us.getD k Unt.d).at' ≠ i) ∧ ownR i us = -1) ∨ ∃ k, k < us.length ∧ (us.getD k Unt.d).at' = i ∧ (us.getD k Unt.d).side = ownR i us := by
  induction us with
  | nil => exact .inl ⟨fun k hk => by simp at hk, rfl⟩
  | cons u l ih =>
    by_cases e : u.at' = i
    · exact .inr ⟨0, by simp, by simpa using e, by rw [ownR, if_pos (by simpa using e)]; simp⟩
    · rw [ownR, if_neg (by simpa using e)]
      rcases ih with ⟨h1, h2⟩ | ⟨k, h1, h2, h3⟩
      · refine .inl ⟨fun k hk => ?_, h2⟩
        cases k with
        | zero => simpa using e
        | succ k => simpa using h1 k (by simpa using hk)
      · exact .inr ⟨k + 1, by simpa using h1, by simpa using h2, by simpa using h3⟩

def zDir (m : Map) (a i : Int) : Nat → Int → Bool
  | 0, _ => false
  | n + 1, d => if (nx m a d == i) = true then (!(m.riv.contains (ed m a d)) || m.roa.contains (ed m a d)) else zDir m a i n (d + 1)

/-- does a unit control a place -/
def zx (b : Brd) (u : Unt) (i : Int) : Bool := if decide (u.at' < 0) = true then false else if (b.r.knd.getD u.kind.toNat Knd.d).zone = true then
  if (costAt b u.kind i == 0) = true then false else zDir b.m u.at' i 6 0 else false

def zS (b : Brd) (side i : Int) (u : Unt) : Bool := u.side == side && zx b u i

def zn (b : Brd) (s : Stt) (side i : Int) : Bool := s.un.any (zS b side i)

theorem StOk.own {b : Brd} {s : Stt} (h : StOk b s) (i : Int) : ownR i s.un = -1 ∨ ownR i s.un = 0 ∨ ownR i s.un = 1 := by
  rcases ownR_spec i s.un with ⟨_, e⟩ | ⟨k, h1, _, h3⟩
  · exact .inl e
  · have := h.side h1
    omega

/-- is a step in that way open to a unit -/
def opn (b : Brd) (s : Stt) (u : Unt) (k : Int) : Bool := decide (costAt b u.kind k > 0) && (!(ownR k s.un == 1 - u.side) && !(zn b s (1 - u.side) k))

/-- y is the best of the first t places: none if -1 -/
def bestI (L : List Int) (D : List Bool) (y t : Int) : Prop :=
  (y = -1 ∧ ∀ j : Nat, (j : Int) < t → D.getD j false = false → L.getD j 0 < 0) ∨
  (0 ≤ y ∧ y < t ∧ D.getD y.toNat false = false ∧ 0 ≤ L.getD y.toNat 0 ∧ ∀ j : Nat, (j : Int) < t → D.getD j false = false → 0 ≤ L.getD j 0 → L.getD y.toNat 0 ≤ L.getD j 0)

theorem bestI.take {L : List Int} {D : List Bool} {y t : Int} (h : bestI L D y t) (h0 : 0 ≤ t) (h1 : D.getD t.toNat false = false) (h2 : L.getD t.toNat 0 ≥ 0) (h3 : y < 0 ∨ L.getD t.toNat 0 < L.getD y.toNat 0) : bestI L D t (t + 1) := by
  refine .inr ⟨h0, by omega, h1, h2, fun j hj hD hp => ?_⟩
  by_cases e : (j : Int) = t
  · rw [show t.toNat = j by omega]; exact Int.le_refl _
  · rcases h with h | ⟨a, _, _, _, c⟩
    · have := h.2 j (by omega) hD; omega
    · have := c j (by omega) hD hp
      omega

theorem Cnd_e {c c' : Bool} {A B : Prop} (e : c = c') (h : Cnd c' A B) : Cnd c A B := e ▸ h

abbrev Hx : Type := Int × Int

abbrev hxC (p : Hx) : List Cell := [cI p.1, cI p.2]

abbrev rwH (l : List Hx) : Row := ⟨false, 2, l.length, fun i j => nth (hxC (l.getD i (0, 0))) j⟩

abbrev rwHH (l : List (List Hx)) : Row := ⟨true, 1, l.length, fun i _ => .fr 2 (l.getD i []).length fun a c => nth (hxC ((l.getD i []).getD a (0, 0))) c⟩

abbrev rwLL (l : List (List Int)) : Row := ⟨true, 1, l.length, fun i _ => .fr 1 (l.getD i []).length fun a _ => cI ((l.getD i []).getD a 0)⟩

theorem lt2 {p : Nat → Prop} (h0 : p 0) (h1 : p 1) : ∀ j, j < 2 → p j := by
  intro j hj
  match j, hj with
  | 0, _ => exact h0
  | 1, _ => exact h1

theorem rwH_no (l : List Hx) : NoRo (rwH l) := fun i j _ hj => lt2 (p := fun j => match nth (hxC (l.getD i (0, 0))) j with
  | .fr sz n g => ∀ i' j', i' < n → j' < sz → (g i' j').noRo = true
  | c => c.noRo = true) rfl rfl j hj

theorem rwHH_no (l : List (List Hx)) : NoRo (rwHH l) := fun i _ _ _ i' j' _ hj => lt2 (p := fun j => (nth (hxC ((l.getD i []).getD i' (0, 0))) j).noRo = true) rfl rfl j' hj

theorem rwLL_no (l : List (List Int)) : NoRo (rwLL l) := fun _ _ _ _ _ _ _ _ => rfl

theorem rwH_nil (g : Nat → Nat → Cell) : RowEq ⟨false, 2, 0, g⟩ (rwH []) := ⟨rfl, rfl, rfl, fun i j hi _ => by simp at hi⟩

theorem rwHH_nil (g : Nat → Nat → Cell) : RowEq ⟨true, 1, 0, g⟩ (rwHH []) := ⟨rfl, rfl, rfl, fun i j hi _ => by simp at hi⟩

theorem rwLL_nil (g : Nat → Nat → Cell) : RowEq ⟨true, 1, 0, g⟩ (rwLL []) := ⟨rfl, rfl, rfl, fun i j hi _ => by simp at hi⟩

theorem getD_app {α : Type} (l : List α) (x d : α) (i : Nat) (hi : i < l.length + 1) : (l ++ [x]).getD i d = if i < l.length then l.getD i d else x := by
  rw [List.getD_eq_getElem?_getD, List.getD_eq_getElem?_getD]
  split
  · rename_i h; rw [List.getElem?_append_left h]
  · rename_i h
    rw [List.getElem?_append_right (by omega), show i - l.length = 0 by omega]; rfl

theorem app_get (l i : Nat) (f g : Nat → Nat → Cell) (j : Nat) : (bif Nat.blt i l then f i j else g (i - l) j) = if i < l then f i j else g (i - l) j := by
  by_cases e : i < l
  · have : Nat.blt i l = true := by simpa [Nat.blt_eq] using e
    rw [this, if_pos e]; rfl
  · have : Nat.blt i l = false := by
      rw [Bool.eq_false_iff]; intro h; exact e (by simpa [Nat.blt_eq] using h)
    rw [this, if_neg e]; rfl

theorem rwH_app (l : List Hx) (p : Hx) (g : Nat → Nat → Cell) (h : ∀ j, j < 2 → g 0 j = nth (hxC p) j) : RowEq (appRow (rwH l) 1 g) (rwH (l ++ [p])) := by
  refine ⟨rfl, rfl, by simp [appRow], fun i j hi hj => ?_⟩
  have hi : i < l.length + 1 := hi
  show (bif Nat.blt i l.length then nth (hxC (l.getD i (0, 0))) j else g (i - l.length) j) = nth (hxC ((l ++ [p]).getD i (0, 0))) j
  rw [app_get l.length i (fun i j => nth (hxC (l.getD i (0, 0))) j) g j, getD_app l p (0, 0) i hi]
  split
  · rfl
  · rw [show i - l.length = 0 by omega]; exact h j hj

theorem rwHH_app (L : List (List Hx)) (l : List Hx) (g : Nat → Nat → Cell) (h : g 0 0 = .fr 2 l.length fun a c => nth (hxC (l.getD a (0, 0))) c) : RowEq (appRow (rwHH L) 1 g) (rwHH (L ++ [l])) := by
  refine ⟨rfl, rfl, by simp [appRow], fun i j hi hj => ?_⟩
  have hj : j < 1 := hj
  obtain rfl : j = 0 := by omega
  have hi : i < L.length + 1 := hi
  show (bif Nat.blt i L.length then Cell.fr 2 (L.getD i []).length (fun a c => nth (hxC ((L.getD i []).getD a (0, 0))) c) else g (i - L.length) 0) = Cell.fr 2 ((L ++ [l]).getD i []).length (fun a c => nth (hxC (((L ++ [l]).getD i []).getD a (0, 0))) c)
  rw [app_get L.length i (fun i _ => Cell.fr 2 (L.getD i []).length fun a c => nth (hxC ((L.getD i []).getD a (0, 0))) c) g 0, getD_app L l [] i hi]
  split
  · rfl
  · rw [show i - L.length = 0 by omega]; exact h

theorem rwLL_app (L : List (List Int)) (l : List Int) (g : Nat → Nat → Cell) (h : g 0 0 = .fr 1 l.length fun a _ => cI (l.getD a 0)) : RowEq (appRow (rwLL L) 1 g) (rwLL (L ++ [l])) := by
  refine ⟨rfl, rfl, by simp [appRow], fun i j hi hj => ?_⟩
  have hj : j < 1 := hj
  obtain rfl : j = 0 := by omega
  have hi : i < L.length + 1 := hi
  show (bif Nat.blt i L.length then Cell.fr 1 (L.getD i []).length (fun a _ => cI ((L.getD i []).getD a 0)) else g (i - L.length) 0) = Cell.fr 1 ((L ++ [l]).getD i []).length (fun a _ => cI (((L ++ [l]).getD i []).getD a 0))
  rw [app_get L.length i (fun i _ => Cell.fr 1 (L.getD i []).length fun a _ => cI ((L.getD i []).getD a 0)) g 0, getD_app L l [] i hi]
  split
  · rfl
  · rw [show i - L.length = 0 by omega]; exact h

/-! ### distances -/
def abz (n : Int) : Int := if n < 0 then -n else n

theorem F_l1Abs (n : Int) (hn : -1000000 ≤ n ∧ n ≤ 1000000) : Fun E0 125 [vI n] [] (.v (vI (abz n))) [] [] := by
  refine Fun_of_xc k125 rfl rfl (fun k q h => by cases h) ?_
  ((conv=>whnf);repeat((first|refine Ct ‹_› ?_|refine Cf ‹_› ?_|refine Ct rfl ?_|refine Cf rfl ?_|refine Bi rfl ?_|refine Bz rfl ?_|refine Lr ?_);conv=>whnf))
  refine CallQ_eq (show _ = [vI n, vI (-n)] by rw [wrapI (by omega), show (0 : Int) - n = -n by omega]) ?_
  (refine CallQ_some (F_l1Most n (-n)) ?_ ?_ ?_; rfl; rfl); ((conv=>whnf);repeat((first|refine Ct ‹_› ?_|refine Cf ‹_› ?_|refine Ct rfl ?_|refine Cf rfl ?_|refine Bi rfl ?_|refine Bz rfl ?_|refine Lr ?_);conv=>whnf))
  refine ⟨?_, rfl, rfl⟩
  have : max n (-n) = abz n := by unfold abz; split <;> omega
  rw [this]; rfl

theorem F_absOf (n : Int) (hn : -1000000 ≤ n ∧ n ≤ 1000000) : Fun E0 134 [vI n] [] (.v (vI (abz n))) [] [] := by
  refine Fun_of_xc k134 rfl rfl (fun k q h => by cases h) ?_
  ((conv=>whnf);repeat((first|refine Ct ‹_› ?_|refine Cf ‹_› ?_|refine Ct rfl ?_|refine Cf rfl ?_|refine Bi rfl ?_|refine Bz rfl ?_|refine Lr ?_);conv=>whnf))
  refine Cnd_i (fun g => ?_) (fun g => ?_)
  · have g := of_decide_eq_true g
    ((conv=>whnf);repeat((first|refine Ct ‹_› ?_|refine Cf ‹_› ?_|refine Ct rfl ?_|refine Cf rfl ?_|refine Bi rfl ?_|refine Bz rfl ?_|refine Lr ?_);conv=>whnf))
    refine ⟨?_, rfl, rfl⟩
    rw [wrapI (by omega), abz, if_pos g, show (0 : Int) - n = -n by omega]; rfl
  · have g := of_decide_eq_false g
    ((conv=>whnf);repeat((first|refine Ct ‹_› ?_|refine Cf ‹_› ?_|refine Ct rfl ?_|refine Cf rfl ?_|refine Bi rfl ?_|refine Bz rfl ?_|refine Lr ?_);conv=>whnf))
    rw [abz, if_neg g]
    exact ⟨rfl, rfl, rfl⟩

structure HxB (q r : Int) : Prop where
  q : 0 ≤ q ∧ q ≤ 9
  r : 0 ≤ r ∧ r ≤ 9

theorem dsH_b {aq ar bq br : Int} (ha : HxB aq ar) (hb : HxB bq br) : 0 ≤ dsH aq ar bq br ∧ dsH aq ar bq br ≤ 18 := by
  have h1 := ha.q; have h2 := ha.r; have h3 := hb.q; have h4 := hb.r
  unfold dsH
  rw [Int.tdiv_eq_ediv_of_nonneg (by split <;> split <;> split <;> omega)]
  split <;> split <;> split <;> omega

theorem tdiv2 {x : Int} : x.tdiv 2 = if x < 0 then -((-x) / 2) else x / 2 := by
  split
  · rw [show x = -(-x) by omega, Int.neg_tdiv, Int.tdiv_eq_ediv_of_nonneg (by omega)]; simp
  · rw [Int.tdiv_eq_ediv_of_nonneg (by omega)]

theorem F_hDistance (aq ar bq br : Int) (ha : HxB aq ar) (hb : HxB bq br) : Fun E0 110 [.agg [cI aq, cI ar], .agg [cI bq, cI br]] [] (.v (vI (dsH aq ar bq br))) [] [] := by
  have h1 := ha.q; have h2 := ha.r; have h3 := hb.q; have h4 := hb.r
  have a1 : -9 ≤ abz (bq - aq) ∧ abz (bq - aq) ≤ 9 := by unfold abz; split <;> omega
  have a2 : -9 ≤ abz (br - ar) ∧ abz (br - ar) ≤ 9 := by unfold abz; split <;> omega
  have a3 : -18 ≤ abz (bq - aq + (br - ar)) ∧ abz (bq - aq + (br - ar)) ≤ 18 := by unfold abz; split <;> omega
  refine Fun_of_xc k110 rfl rfl (fun k q h => by cases h) ?_
  ((conv=>whnf);repeat((first|refine Ct ‹_› ?_|refine Cf ‹_› ?_|refine Ct rfl ?_|refine Cf rfl ?_|refine Bi rfl ?_|refine Bz rfl ?_|refine Lr ?_);conv=>whnf))
  refine CallQ_eq (show _ = [vI (bq - aq)] by rw [wrapI (by omega)]) ?_
  (refine CallQ_some (F_l1Abs (bq - aq) (by omega)) ?_ ?_ ?_; rfl; rfl); ((conv=>whnf);repeat((first|refine Ct ‹_› ?_|refine Cf ‹_› ?_|refine Ct rfl ?_|refine Cf rfl ?_|refine Bi rfl ?_|refine Bz rfl ?_|refine Lr ?_);conv=>whnf))
  refine CallQ_eq (show _ = [vI (br - ar)] by rw [wrapI (by omega)]) ?_
  (refine CallQ_some (F_l1Abs (br - ar) (by omega)) ?_ ?_ ?_; rfl; rfl); ((conv=>whnf);repeat((first|refine Ct ‹_› ?_|refine Cf ‹_› ?_|refine Ct rfl ?_|refine Cf rfl ?_|refine Bi rfl ?_|refine Bz rfl ?_|refine Lr ?_);conv=>whnf))
  refine CallQ_eq (show _ = [vI (bq - aq + (br - ar))] by rw [wrapI (n := bq - aq) (by omega), wrapI (n := br - ar) (by omega), wrapI (by omega)]) ?_
  (refine CallQ_some (F_l1Abs (bq - aq + (br - ar)) (by omega)) ?_ ?_ ?_; rfl; rfl); ((conv=>whnf);repeat((first|refine Ct ‹_› ?_|refine Cf ‹_› ?_|refine Ct rfl ?_|refine Cf rfl ?_|refine Bi rfl ?_|refine Bz rfl ?_|refine Lr ?_);conv=>whnf))
  refine ⟨?_, rfl, rfl⟩
  rw [wrapI (n := abz (bq - aq) + abz (br - ar)) (by omega), wrapI (n := abz (bq - aq) + abz (br - ar) + abz (bq - aq + (br - ar))) (by omega), wrapI (by rw [tdiv2]; omega)]
  rfl

theorem F_distance (aq ar bq br : Int) (ha : HxB aq ar) (hb : HxB bq br) : Fun E0 116 [.agg [cI aq, cI ar], .agg [cI bq, cI br]] [] (.v (vI (dsH aq ar bq br))) [] [] := by
  have h1 := ha.q; have h2 := ha.r; have h3 := hb.q; have h4 := hb.r
  have a1 : -9 ≤ abz (bq - aq) ∧ abz (bq - aq) ≤ 9 := by unfold abz; split <;> omega
  have a2 : -9 ≤ abz (br - ar) ∧ abz (br - ar) ≤ 9 := by unfold abz; split <;> omega
  have a3 : -18 ≤ abz (bq - aq + (br - ar)) ∧ abz (bq - aq + (br - ar)) ≤ 18 := by unfold abz; split <;> omega
  refine Fun_of_xc k116 rfl rfl (fun k q h => by cases h) ?_
  ((conv=>whnf);repeat((first|refine Ct ‹_› ?_|refine Cf ‹_› ?_|refine Ct rfl ?_|refine Cf rfl ?_|refine Bi rfl ?_|refine Bz rfl ?_|refine Lr ?_);conv=>whnf))
  refine CallQ_eq (show _ = [vI (bq - aq)] by rw [wrapI (by omega)]) ?_
  (refine CallQ_some (F_absOf (bq - aq) (by omega)) ?_ ?_ ?_; rfl; rfl); ((conv=>whnf);repeat((first|refine Ct ‹_› ?_|refine Cf ‹_› ?_|refine Ct rfl ?_|refine Cf rfl ?_|refine Bi rfl ?_|refine Bz rfl ?_|refine Lr ?_);conv=>whnf))
  refine CallQ_eq (show _ = [vI (br - ar)] by rw [wrapI (by omega)]) ?_
  (refine CallQ_some (F_absOf (br - ar) (by omega)) ?_ ?_ ?_; rfl; rfl); ((conv=>whnf);repeat((first|refine Ct ‹_› ?_|refine Cf ‹_› ?_|refine Ct rfl ?_|refine Cf rfl ?_|refine Bi rfl ?_|refine Bz rfl ?_|refine Lr ?_);conv=>whnf))
  refine CallQ_eq (show _ = [vI (bq - aq + (br - ar))] by rw [wrapI (n := bq - aq) (by omega), wrapI (n := br - ar) (by omega), wrapI (by omega)]) ?_
  (refine CallQ_some (F_absOf (bq - aq + (br - ar)) (by omega)) ?_ ?_ ?_; rfl; rfl); ((conv=>whnf);repeat((first|refine Ct ‹_› ?_|refine Cf ‹_› ?_|refine Ct rfl ?_|refine Cf rfl ?_|refine Bi rfl ?_|refine Bz rfl ?_|refine Lr ?_);conv=>whnf))
  refine ⟨?_, rfl, rfl⟩
  rw [wrapI (n := abz (bq - aq) + abz (br - ar)) (by omega), wrapI (n := abz (bq - aq) + abz (br - ar) + abz (bq - aq + (br - ar))) (by omega), wrapI (by rw [tdiv2]; omega)]
  rfl

/-! ### points of a line -/
theorem mul_b {a c A C : Int} (ha : -A ≤ a ∧ a ≤ A) (hc : -C ≤ c ∧ c ≤ C) : -(A * C) ≤ a * c ∧ a * c ≤ A * C := by
  have hA : 0 ≤ A := by omega
  have hC : 0 ≤ C := by omega
  rcases Int.le_total 0 a with h | h <;> rcases Int.le_total 0 c with h' | h'
  · have := Int.mul_le_mul ha.2 hc.2 h' hA
    have := Int.mul_nonneg h h'
    omega
  · have := Int.mul_le_mul ha.2 (show -c ≤ C by omega) (by omega) hA
    have := Int.mul_nonneg h (show 0 ≤ -c by omega)
    rw [Int.mul_neg] at *
    omega
  · have := Int.mul_le_mul (show -a ≤ A by omega) hc.2 h' hA
    have := Int.mul_nonneg (show 0 ≤ -a by omega) h'
    rw [Int.neg_mul] at *
    omega
  · have := Int.mul_le_mul (show -a ≤ A by omega) (show -c ≤ C by omega) (by omega) hA
    have := Int.mul_nonneg (show 0 ≤ -a by omega) (show 0 ≤ -c by omega)
    rw [Int.neg_mul_neg] at *
    omega

structure PtB (q r n : Int) : Prop where
  n : 1 ≤ n ∧ n ≤ 18
  q : 0 ≤ q ∧ q ≤ 1000
  r : 0 ≤ r ∧ r ≤ 1000

theorem dm {q n : Int} (hq : 0 ≤ q ∧ q ≤ 1000) (hn : 1 ≤ n) : n * q.tdiv n + q.tmod n = q ∧ (0 ≤ q.tdiv n ∧ q.tdiv n ≤ 1000) ∧ 0 ≤ q.tmod n ∧ q.tmod n < n := by
  have h := tdiv_b (i := q) (w := n) hq.1 (by omega) hn
  exact ⟨Int.mul_tdiv_add_tmod q n, by omega, h.2.2.1, h.2.2.2⟩

/-- the nearest places -/
def sh (q r n : Int) (p : Hx) : Hx := (q.tdiv n + p.1, r.tdiv n + p.2)

def ptL (q r n : Int) : List Hx := (spOff n (q.tmod n) (r.tmod n)).map (sh q r n)

theorem F_floorDiv (q n : Int) (hq : 0 ≤ q ∧ q ≤ 1000) (hn : 1 ≤ n) : Fun E0 135 [vI q, vI n] [] (.v (vI (q.tdiv n))) [] [] := by
  obtain ⟨_, h2, h3, _⟩ := dm hq hn
  refine Fun_of_xc k135 rfl rfl (fun k q h => by cases h) ?_
  ((conv=>whnf);repeat((first|refine Ct ‹_› ?_|refine Cf ‹_› ?_|refine Ct rfl ?_|refine Cf rfl ?_|refine Bi rfl ?_|refine Bz rfl ?_|refine Lr ?_);conv=>whnf))
  refine Bnd_i (by omega) ?_
  ((conv=>whnf);repeat((first|refine Ct ‹_› ?_|refine Cf ‹_› ?_|refine Ct rfl ?_|refine Cf rfl ?_|refine Bi rfl ?_|refine Bz rfl ?_|refine Lr ?_);conv=>whnf))
  refine Bnd_i (by omega) ?_
  ((conv=>whnf);repeat((first|refine Ct ‹_› ?_|refine Cf ‹_› ?_|refine Ct rfl ?_|refine Cf rfl ?_|refine Bi rfl ?_|refine Bz rfl ?_|refine Lr ?_);conv=>whnf))
  refine Cnd_f (decide_eq_false (by omega)) ?_
  ((conv=>whnf);repeat((first|refine Ct ‹_› ?_|refine Cf ‹_› ?_|refine Ct rfl ?_|refine Cf rfl ?_|refine Bi rfl ?_|refine Bz rfl ?_|refine Lr ?_);conv=>whnf))
  refine ⟨?_, rfl, rfl⟩
  rw [wrapI (by omega)]; rfl

theorem F_hNear (q n : Int) (hq : 0 ≤ q ∧ q ≤ 1000) (hn : 1 ≤ n ∧ n ≤ 18) : Fun E0 126 [vI q, vI n] [] (.v (.one (.own 0 ((hnOff n (q.tmod n)).map (q.tdiv n + ·)).length))) [(0, rwI ((hnOff n (q.tmod n)).map (q.tdiv n + ·)))] [] := by
  obtain ⟨h1, h2, h3, h4⟩ := dm hq hn.1
  have hmul : q.tdiv n * n = q - q.tmod n := by rw [Int.mul_comm]; omega
  have e0 : IntKind.i64.wrap (2 * IntKind.i64.wrap (q - IntKind.i64.wrap (IntKind.i64.wrap (q.tdiv n) * n))) = 2 * q.tmod n := by
    rw [wrapI (n := q.tdiv n) (by omega), hmul, wrapI (n := q - q.tmod n) (by omega), show q - (q - q.tmod n) = q.tmod n by omega, wrapI (n := q.tmod n) (by omega), wrapI (by omega)]
  refine Fun_of_xc k126 rfl rfl (nrC (rwI_no _) nrN) ?_
  ((conv=>whnf);repeat((first|refine Ct ‹_› ?_|refine Cf ‹_› ?_|refine Ct rfl ?_|refine Cf rfl ?_|refine Bi rfl ?_|refine Bz rfl ?_|refine Lr ?_);conv=>whnf))
  refine Rw_i (rwI []) (rwI_nil _) ?_
  ((conv=>whnf);repeat((first|refine Ct ‹_› ?_|refine Cf ‹_› ?_|refine Ct rfl ?_|refine Cf rfl ?_|refine Bi rfl ?_|refine Bz rfl ?_|refine Lr ?_);conv=>whnf))
  refine Bnd_i (by omega) ?_
  ((conv=>whnf);repeat((first|refine Ct ‹_› ?_|refine Cf ‹_› ?_|refine Ct rfl ?_|refine Cf rfl ?_|refine Bi rfl ?_|refine Bz rfl ?_|refine Lr ?_);conv=>whnf))
  refine Bnd_i (by omega) ?_
  ((conv=>whnf);repeat((first|refine Ct ‹_› ?_|refine Cf ‹_› ?_|refine Ct rfl ?_|refine Cf rfl ?_|refine Bi rfl ?_|refine Bz rfl ?_|refine Lr ?_);conv=>whnf))
  refine Cnd_f (decide_eq_false (by omega)) ?_
  ((conv=>whnf);repeat((first|refine Ct ‹_› ?_|refine Cf ‹_› ?_|refine Ct rfl ?_|refine Cf rfl ?_|refine Bi rfl ?_|refine Bz rfl ?_|refine Lr ?_);conv=>whnf))
  refine Cnd_e (c' := decide (2 * q.tmod n < n)) (by rw [e0]) ?_
  refine Cnd_i (fun g => ?_) (fun g => ?_)
  · have g := of_decide_eq_true g
    ((conv=>whnf);repeat((first|refine Ct ‹_› ?_|refine Cf ‹_› ?_|refine Ct rfl ?_|refine Cf rfl ?_|refine Bi rfl ?_|refine Bz rfl ?_|refine Lr ?_);conv=>whnf))
    refine Rw_i (rwI [q.tdiv n]) ⟨rfl, rfl, rfl, fun i j hi hj => ?_⟩ ?_
    · have hi : i < 1 := hi
      have hj : j < 1 := hj
      obtain rfl : i = 0 := by omega
      obtain rfl : j = 0 := by omega
      show cI (IntKind.i64.wrap (q.tdiv n)) = cI (q.tdiv n)
      rw [wrapI (by omega)]
    ((conv=>whnf);repeat((first|refine Ct ‹_› ?_|refine Cf ‹_› ?_|refine Ct rfl ?_|refine Cf rfl ?_|refine Bi rfl ?_|refine Bz rfl ?_|refine Lr ?_);conv=>whnf))
    rw [hnOff, if_pos g]
    show _ ∧ _
    rw [show ([0] : List Int).map (q.tdiv n + ·) = [q.tdiv n] by simp]
    exact ⟨rfl, rfl, rfl⟩
  have g := of_decide_eq_false g
  ((conv=>whnf);repeat((first|refine Ct ‹_› ?_|refine Cf ‹_› ?_|refine Ct rfl ?_|refine Cf rfl ?_|refine Bi rfl ?_|refine Bz rfl ?_|refine Lr ?_);conv=>whnf))
  refine Cnd_e (c' := decide (2 * q.tmod n > n)) (by rw [e0]) ?_
  refine Cnd_i (fun g2 => ?_) (fun g2 => ?_)
  · have g2 := of_decide_eq_true g2
    ((conv=>whnf);repeat((first|refine Ct ‹_› ?_|refine Cf ‹_› ?_|refine Ct rfl ?_|refine Cf rfl ?_|refine Bi rfl ?_|refine Bz rfl ?_|refine Lr ?_);conv=>whnf))
    refine Rw_i (rwI [q.tdiv n + 1]) ⟨rfl, rfl, rfl, fun i j hi hj => ?_⟩ ?_
    · have hi : i < 1 := hi
      have hj : j < 1 := hj
      obtain rfl : i = 0 := by omega
      obtain rfl : j = 0 := by omega
      show cI (IntKind.i64.wrap (IntKind.i64.wrap (q.tdiv n) + 1)) = cI (q.tdiv n + 1)
      rw [wrapI (n := q.tdiv n) (by omega), wrapI (by omega)]
    ((conv=>whnf);repeat((first|refine Ct ‹_› ?_|refine Cf ‹_› ?_|refine Ct rfl ?_|refine Cf rfl ?_|refine Bi rfl ?_|refine Bz rfl ?_|refine Lr ?_);conv=>whnf))
    rw [hnOff, if_neg g, if_pos g2]
    show _ ∧ _
    rw [show ([1] : List Int).map (q.tdiv n + ·) = [q.tdiv n + 1] by simp]
    exact ⟨rfl, rfl, rfl⟩
  · have g2 := of_decide_eq_false g2
    ((conv=>whnf);repeat((first|refine Ct ‹_› ?_|refine Cf ‹_› ?_|refine Ct rfl ?_|refine Cf rfl ?_|refine Bi rfl ?_|refine Bz rfl ?_|refine Lr ?_);conv=>whnf))
    refine Rw_i (rwI [q.tdiv n, q.tdiv n + 1]) ⟨rfl, rfl, rfl, fun i j hi hj => ?_⟩ ?_
    · have hi : i < 2 := hi
      have hj : j < 1 := hj
      obtain rfl : j = 0 := by omega
      revert i
      refine lt2 ?_ ?_
      · intro _
        show cI (IntKind.i64.wrap (q.tdiv n)) = cI (q.tdiv n)
        rw [wrapI (by omega)]
      · intro _
        show cI (IntKind.i64.wrap (IntKind.i64.wrap (q.tdiv n) + 1)) = cI (q.tdiv n + 1)
        rw [wrapI (n := q.tdiv n) (by omega), wrapI (by omega)]
    ((conv=>whnf);repeat((first|refine Ct ‹_› ?_|refine Cf ‹_› ?_|refine Ct rfl ?_|refine Cf rfl ?_|refine Bi rfl ?_|refine Bz rfl ?_|refine Lr ?_);conv=>whnf))
    rw [hnOff, if_neg g, if_neg g2]
    show _ ∧ _
    rw [show ([0, 1] : List Int).map (q.tdiv n + ·) = [q.tdiv n, q.tdiv n + 1] by simp]
    exact ⟨rfl, rfl, rfl⟩

theorem hnOff_len (n f : Int) : (hnOff n f).length ≤ 2 := by unfold hnOff; split <;> (try split) <;> simp

theorem hnOff_b {n f x : Int} (h : x ∈ hnOff n f) : 0 ≤ x ∧ x ≤ 1 := by
  unfold hnOff at h
  split at h
  · simp at h; omega
  · split at h <;> simp at h <;> omega

/-- a map told element by element -/
theorem map_take {α β : Type} (f : α → β) (l : List α) (d : α) {t : Int} (h0 : 0 ≤ t) (h1 : t < l.length) : (l.take (t + 1).toNat).map f = (l.take t.toNat).map f ++ [f (l.getD t.toNat d)] := by
  have : t.toNat < l.length := by omega
  rw [show (t + 1).toNat = t.toNat + 1 by omega, List.take_add_one, List.map_append]
  congr 1
  rw [List.getD_eq_getElem?_getD, List.getElem?_eq_getElem this]; rfl

/-- the point i of n of the line from a to b -/
def lnQ (a b i n : Int) : Int := a * n + (b - a) * i

theorem lnQ_b {a b i n : Int} (ha : 0 ≤ a ∧ a ≤ 9) (hb : 0 ≤ b ∧ b ≤ 9) (hi : 0 ≤ i ∧ i ≤ n) (hn : n ≤ 18) : 0 ≤ lnQ a b i n ∧ lnQ a b i n ≤ 162 := by
  have e : lnQ a b i n = a * (n - i) + b * i := by
    unfold lnQ
    rw [Int.mul_sub, Int.sub_mul]; omega
  rw [e]
  have h1 := Int.mul_nonneg ha.1 (show 0 ≤ n - i by omega)
  have h2 := Int.mul_nonneg hb.1 hi.1
  have h3 := Int.mul_le_mul_of_nonneg_right ha.2 (show 0 ≤ n - i by omega)
  have h4 := Int.mul_le_mul_of_nonneg_right hb.2 hi.1
  omega

theorem tmod_mul {n x : Int} : (n * x).tmod n = 0 := Int.mul_tmod_right n x

/-- one of three coordinates of a point of a line is whole -/
theorem ln_whole {aq ar bq br i : Int} (ha : HxB aq ar) (hb : HxB bq br) (hi : 0 ≤ i ∧ i ≤ dsH aq ar bq br) (h1 : 1 ≤ dsH aq ar bq br) :
    (lnQ aq bq i (dsH aq ar bq br)).tmod (dsH aq ar bq br) = 0 ∨ (lnQ ar br i (dsH aq ar bq br)).tmod (dsH aq ar bq br) = 0 ∨ (lnQ aq bq i (dsH aq ar bq br)).tmod (dsH aq ar bq br) + (lnQ ar br i (dsH aq ar bq br)).tmod (dsH aq ar bq br) = dsH aq ar bq br := by
  have hb18 := dsH_b ha hb
  obtain ⟨⟨s, hs, hm⟩, _⟩ := dsH_max aq ar bq br
  have q1 := lnQ_b ha.q hb.q hi (by omega)
  have r1 := lnQ_b ha.r hb.r hi (by omega)
  generalize hn : dsH aq ar bq br = n at *
  obtain ⟨e1, _, c1, c2⟩ := dm (q := lnQ aq bq i n) (n := n) (by omega) h1
  obtain ⟨e2, _, d1, d2⟩ := dm (q := lnQ ar br i n) (n := n) (by omega) h1
  rcases hm with hm | hm | hm
  · left
    have : lnQ aq bq i n = n * (aq + s * i) := by unfold lnQ; rw [hm, Int.mul_add, Int.mul_comm aq n, Int.mul_comm s n, Int.mul_assoc]
    rw [this]; exact tmod_mul
  · right; left
    have : lnQ ar br i n = n * (ar + s * i) := by unfold lnQ; rw [hm, Int.mul_add, Int.mul_comm ar n, Int.mul_comm s n, Int.mul_assoc]
    rw [this]; exact tmod_mul
  · have e3 : lnQ aq bq i n + lnQ ar br i n = n * (aq + ar + s * i) := by
      have : (bq - aq) * i + (br - ar) * i = n * (s * i) := by rw [← Int.add_mul, hm, Int.mul_comm s n, Int.mul_assoc]
      unfold lnQ
      rw [Int.mul_add, Int.mul_add, Int.mul_comm n aq, Int.mul_comm n ar]; omega
    have e4 : (lnQ aq bq i n).tmod n + (lnQ ar br i n).tmod n = n * (aq + ar + s * i - (lnQ aq bq i n).tdiv n - (lnQ ar br i n).tdiv n) := by
      rw [Int.mul_sub, Int.mul_sub]; omega
    generalize aq + ar + s * i - (lnQ aq bq i n).tdiv n - (lnQ ar br i n).tdiv n = z at e4
    rcases Int.lt_trichotomy z 0 with h | h | h
    · have : n * z ≤ n * (-1) := Int.mul_le_mul_of_nonneg_left (by omega) (by omega)
      omega
    · subst h; omega
    · by_cases h2 : z = 1
      · subst h2; right; right; omega
      · have : n * 2 ≤ n * z := Int.mul_le_mul_of_nonneg_left (by omega) (by omega)
        omega

def lcL (aq ar bq br i : Int) : List Hx := ptL (lnQ aq bq i (dsH aq ar bq br)) (lnQ ar br i (dsH aq ar bq br)) (dsH aq ar bq br)

theorem ptL_len (q r n : Int) : (ptL q r n).length ≤ 2 := by
  unfold ptL spOff
  rw [List.length_map]
  split <;> rw [List.length_map] <;> exact hnOff_len _ _

theorem ptL_q0 {q r n : Int} (h : q.tmod n = 0) : ptL q r n = ((hnOff n (r.tmod n)).map (r.tdiv n + ·)).map fun y => (q.tdiv n, y) := by
  unfold ptL spOff
  rw [if_pos h, List.map_map, List.map_map]
  congr 1
  funext y
  show (q.tdiv n + 0, r.tdiv n + y) = (q.tdiv n, r.tdiv n + y)
  rw [Int.add_zero]

def spY (q r n x : Int) : Int := if r.tmod n = 0 then r.tdiv n else (q + r).tdiv n - x

theorem ptL_q1 {q r n : Int} (hq : 0 ≤ q ∧ q ≤ 1000) (hr : 0 ≤ r ∧ r ≤ 1000) (hn : 1 ≤ n) (h : q.tmod n ≠ 0) (h2 : r.tmod n = 0 ∨ q.tmod n + r.tmod n = n) : ptL q r n = ((hnOff n (q.tmod n)).map (q.tdiv n + ·)).map fun x => (x, spY q r n x) := by
  unfold ptL spOff
  rw [if_neg h, List.map_map, List.map_map]
  congr 1
  funext x
  show sh q r n (if r.tmod n = 0 then (x, 0) else (x, 1 - x)) = (q.tdiv n + x, spY q r n (q.tdiv n + x))
  unfold spY sh
  by_cases h3 : r.tmod n = 0
  · rw [if_pos h3, if_pos h3, Int.add_zero]
  · rw [if_neg h3, if_neg h3]
    obtain ⟨e1, e1b, e1c, e1d⟩ := dm hq hn
    obtain ⟨e2, e2b, e2c, e2d⟩ := dm hr hn
    have e3 : q + r = (q.tdiv n + r.tdiv n + 1) * n := by
      rw [Int.add_mul, Int.add_mul, Int.mul_comm _ n, Int.mul_comm (r.tdiv n) n]; omega
    have e4 : (q + r).tdiv n = q.tdiv n + r.tdiv n + 1 := by rw [e3, Int.mul_tdiv_cancel _ (by omega)]
    show (q.tdiv n + x, r.tdiv n + (1 - x)) = (q.tdiv n + x, (q + r).tdiv n - (q.tdiv n + x))
    rw [e4]
    congr 1
    omega

theorem lnQ_w {a b i n : Int} (ha : 0 ≤ a ∧ a ≤ 9) (hb : 0 ≤ b ∧ b ≤ 9) (hi : 0 ≤ i ∧ i ≤ n) (hn : n ≤ 18) : IntKind.i64.wrap (IntKind.i64.wrap (a * n) + IntKind.i64.wrap (IntKind.i64.wrap (b - a) * i)) = lnQ a b i n := by
  have h1 := mul_b (a := a) (c := n) (A := 9) (C := 18) (by omega) (by omega)
  have h2 := mul_b (a := b - a) (c := i) (A := 9) (C := 18) (by omega) (by omega)
  rw [wrapI (n := b - a) (by omega), wrapI (n := a * n) (by omega), wrapI (n := (b - a) * i) (by omega), wrapI (by omega)]
  rfl

theorem lnQ_w2 {a b i n : Int} (ha : 0 ≤ a ∧ a ≤ 9) (hb : 0 ≤ b ∧ b ≤ 9) (hi : 0 ≤ i ∧ i ≤ n) (hn : n ≤ 18) : IntKind.i64.wrap (IntKind.i64.wrap (a * n) + IntKind.i64.wrap (i * IntKind.i64.wrap (b - a))) = lnQ a b i n := by
  have h2 := lnQ_w ha hb hi hn
  rw [Int.mul_comm (IntKind.i64.wrap (b - a)) i] at h2
  exact h2

theorem F_hCells (aq ar bq br i n : Int) (ha : HxB aq ar) (hb : HxB bq br) (hn : n = dsH aq ar bq br) (h1 : 1 ≤ n) (hi : 0 ≤ i ∧ i ≤ n) :
    Fun E0 111 [.agg [cI aq, cI ar], .agg [cI bq, cI br], vI i, vI n] [] (.v (.one (.own 0 (lcL aq ar bq br i).length))) [(0, rwH (lcL aq ar bq br i))] [] := by
  have hb18 := dsH_b ha hb
  have hw := ln_whole ha hb (i := i) (by omega) (by omega)
  have q1 := lnQ_b ha.q hb.q hi (by omega)
  have r1 := lnQ_b ha.r hb.r hi (by omega)
  have wq := lnQ_w ha.q hb.q hi (by omega)
  have wr := lnQ_w ha.r hb.r hi (by omega)
  unfold lcL
  rw [← hn] at hw hb18 ⊢
  clear hn
  refine Fun_of_xc k111 rfl rfl (nrC (rwH_no _) nrN) ?_
  ((conv=>whnf);repeat((first|refine Ct ‹_› ?_|refine Cf ‹_› ?_|refine Ct rfl ?_|refine Cf rfl ?_|refine Bi rfl ?_|refine Bz rfl ?_|refine Lr ?_);conv=>whnf))
  refine Rw_i (rwH []) (rwH_nil _) ?_
  ((conv=>whnf);repeat((first|refine Ct ‹_› ?_|refine Cf ‹_› ?_|refine Ct rfl ?_|refine Cf rfl ?_|refine Bi rfl ?_|refine Bz rfl ?_|refine Lr ?_);conv=>whnf))
  refine Rw_i (rwH []) (rwH_nil _) ?_
  ((conv=>whnf);repeat((first|refine Ct ‹_› ?_|refine Cf ‹_› ?_|refine Ct rfl ?_|refine Cf rfl ?_|refine Bi rfl ?_|refine Bz rfl ?_|refine Lr ?_);conv=>whnf))
  rw [wq, wr]
  generalize lnQ aq bq i n = q at *
  generalize lnQ ar br i n = r at *
  clear wq wr
  have dq := dm (q := q) (n := n) (by omega) h1
  have dr := dm (q := r) (n := n) (by omega) h1
  ((conv=>whnf);repeat((first|refine Ct ‹_› ?_|refine Cf ‹_› ?_|refine Ct rfl ?_|refine Cf rfl ?_|refine Bi rfl ?_|refine Bz rfl ?_|refine Lr ?_);conv=>whnf))
  refine Bnd_i (by omega) ?_
  ((conv=>whnf);repeat((first|refine Ct ‹_› ?_|refine Cf ‹_› ?_|refine Ct rfl ?_|refine Cf rfl ?_|refine Bi rfl ?_|refine Bz rfl ?_|refine Lr ?_);conv=>whnf))
  refine Cnd_i (fun g => ?_) (fun g => ?_)
  · have g : q.tmod n = 0 := by
      simpa using g
    ((conv=>whnf);repeat((first|refine Ct ‹_› ?_|refine Cf ‹_› ?_|refine Ct rfl ?_|refine Cf rfl ?_|refine Bi rfl ?_|refine Bz rfl ?_|refine Lr ?_);conv=>whnf))
    (refine CallQ_some (F_hNear r n (by omega) (by omega)) ?_ ?_ ?_; rfl; rfl); ((conv=>whnf);repeat((first|refine Ct ‹_› ?_|refine Cf ‹_› ?_|refine Ct rfl ?_|refine Cf rfl ?_|refine Bi rfl ?_|refine Bz rfl ?_|refine Lr ?_);conv=>whnf))
    rw [ptL_q0 g]
    have hl := hnOff_len n (r.tmod n)
    generalize hnOff n (r.tmod n) = O at hl ⊢
    generalize hL : O.map (r.tdiv n + ·) = L at hl ⊢
    have hL : L.length ≤ 2 := by rw [← hL]; simpa using hl
    refine WLoop_v2 ⟨[3, 9, 11, 46, 47, 48], [], []⟩ (fun (t : Int) (out : List Hx) => hdS 96 [(3, .v (vI n)), (9, .v (vI q)), (11, .v (.one (.own (vkey 11) out.length))), (46, .v (.one (.own (vkey 46) L.length))), (47, .v (vI L.length)), (48, .v (vI t))] [] [(vkey 11, rwH out), (vkey 46, rwI L)])
      (fun m t out => 0 ≤ t ∧ t + m = L.length ∧ out = (L.take t.toNat).map fun y => (q.tdiv n, y)) L.length 0 [] rfl ⟨by omega, by omega, rfl⟩ ?_
    rintro m t out ⟨t1, t2, t3⟩
    have hol : out.length ≤ 2 := by rw [t3, List.length_map, List.length_take]; omega
    ((conv=>whnf);repeat((first|refine Ct ‹_› ?_|refine Cf ‹_› ?_|refine Ct rfl ?_|refine Cf rfl ?_|refine Bi rfl ?_|refine Bz rfl ?_|refine Lr ?_);conv=>whnf))
    refine Cnd_i (fun g => ?_) (fun g => ?_)
    · have ht := of_decide_eq_true g
      ((conv=>whnf);repeat((first|refine Ct ‹_› ?_|refine Cf ‹_› ?_|refine Ct rfl ?_|refine Cf rfl ?_|refine Bi rfl ?_|refine Bz rfl ?_|refine Lr ?_);conv=>whnf))
      refine Bnd_i (⟨t1, ht⟩) ?_; ((conv=>whnf);repeat((first|refine Ct ‹_› ?_|refine Cf ‹_› ?_|refine Ct rfl ?_|refine Cf rfl ?_|refine Bi rfl ?_|refine Bz rfl ?_|refine Lr ?_);conv=>whnf))
      refine Bnd_i (by omega) ?_
      ((conv=>whnf);repeat((first|refine Ct ‹_› ?_|refine Cf ‹_› ?_|refine Ct rfl ?_|refine Cf rfl ?_|refine Bi rfl ?_|refine Bz rfl ?_|refine Lr ?_);conv=>whnf))
      refine Rw_self ?_
      ((conv=>whnf);repeat((first|refine Ct ‹_› ?_|refine Cf ‹_› ?_|refine Ct rfl ?_|refine Cf rfl ?_|refine Bi rfl ?_|refine Bz rfl ?_|refine Lr ?_);conv=>whnf))
      refine Bnd_i ?_ ?_
      · show out.length + 1 < _
        omega
      ((conv=>whnf);repeat((first|refine Ct ‹_› ?_|refine Cf ‹_› ?_|refine Ct rfl ?_|refine Cf rfl ?_|refine Bi rfl ?_|refine Bz rfl ?_|refine Lr ?_);conv=>whnf))
      refine Rw_i (rwH (out ++ [(q.tdiv n, L.getD t.toNat 0)])) (rwH_app _ (q.tdiv n, L.getD t.toNat 0) _ (lt2 (by show cI _ = cI _; rw [wrapI (by omega)]) (by show cI _ = cI _; rfl))) ?_
      ((conv=>whnf);repeat((first|refine Ct ‹_› ?_|refine Cf ‹_› ?_|refine Ct rfl ?_|refine Cf rfl ?_|refine Bi rfl ?_|refine Bz rfl ?_|refine Lr ?_);conv=>whnf))
      refine ⟨m - 1, t + 1, out ++ [(q.tdiv n, L.getD t.toNat 0)], ?_, by omega, by omega, by omega, ?_⟩
      · rw [wrapI (by omega)]; rfl
      · rw [map_take _ L 0 t1 ht, ← t3]
    · have ht := of_decide_eq_false g
      ((conv=>whnf);repeat((first|refine Ct ‹_› ?_|refine Cf ‹_› ?_|refine Ct rfl ?_|refine Cf rfl ?_|refine Bi rfl ?_|refine Bz rfl ?_|refine Lr ?_);conv=>whnf))
      rw [t3, show t.toNat = L.length by omega, List.take_length]
      exact ⟨rfl, rfl, rfl⟩
  have g : q.tmod n ≠ 0 := by
    simpa using g
  ((conv=>whnf);repeat((first|refine Ct ‹_› ?_|refine Cf ‹_› ?_|refine Ct rfl ?_|refine Cf rfl ?_|refine Bi rfl ?_|refine Bz rfl ?_|refine Lr ?_);conv=>whnf))
  (refine CallQ_some (F_hNear q n (by omega) (by omega)) ?_ ?_ ?_; rfl; rfl); ((conv=>whnf);repeat((first|refine Ct ‹_› ?_|refine Cf ‹_› ?_|refine Ct rfl ?_|refine Cf rfl ?_|refine Bi rfl ?_|refine Bz rfl ?_|refine Lr ?_);conv=>whnf))
  rw [ptL_q1 (by omega) (by omega) h1 g (by omega)]
  have hl := hnOff_len n (q.tmod n)
  have hLb : ∀ x ∈ (hnOff n (q.tmod n)).map (q.tdiv n + ·), 0 ≤ x ∧ x ≤ 1001 := by
    intro x hx
    obtain ⟨y, hy, rfl⟩ := List.mem_map.1 hx
    have := hnOff_b hy
    omega
  generalize hnOff n (q.tmod n) = O at hl hLb ⊢
  generalize hL : O.map (q.tdiv n + ·) = L at hl hLb ⊢
  have hL : L.length ≤ 2 := by rw [← hL]; simpa using hl
  have dqr := dm (q := q + r) (n := n) (by omega) h1
  refine WLoop_v2 ⟨[3, 9, 10, 11, 64, 65, 66], [], []⟩ (fun (t : Int) (out : List Hx) => hdS 96 [(3, .v (vI n)), (9, .v (vI q)), (10, .v (vI r)), (11, .v (.one (.own (vkey 11) out.length))), (64, .v (.one (.own (vkey 64) L.length))), (65, .v (vI L.length)), (66, .v (vI t))] [] [(vkey 11, rwH out), (vkey 64, rwI L)])
    (fun m t out => 0 ≤ t ∧ t + m = L.length ∧ out = (L.take t.toNat).map fun x => (x, spY q r n x)) L.length 0 [] rfl ⟨by omega, by omega, rfl⟩ ?_
  rintro m t out ⟨t1, t2, t3⟩
  have hol : out.length ≤ 2 := by rw [t3, List.length_map, List.length_take]; omega
  ((conv=>whnf);repeat((first|refine Ct ‹_› ?_|refine Cf ‹_› ?_|refine Ct rfl ?_|refine Cf rfl ?_|refine Bi rfl ?_|refine Bz rfl ?_|refine Lr ?_);conv=>whnf))
  refine Cnd_i (fun g => ?_) (fun g => ?_)
  · have ht := of_decide_eq_true g
    have hx := hLb _ (getD_mem t1 ht)
    ((conv=>whnf);repeat((first|refine Ct ‹_› ?_|refine Cf ‹_› ?_|refine Ct rfl ?_|refine Cf rfl ?_|refine Bi rfl ?_|refine Bz rfl ?_|refine Lr ?_);conv=>whnf))
    refine Bnd_i (⟨t1, ht⟩) ?_; ((conv=>whnf);repeat((first|refine Ct ‹_› ?_|refine Cf ‹_› ?_|refine Ct rfl ?_|refine Cf rfl ?_|refine Bi rfl ?_|refine Bz rfl ?_|refine Lr ?_);conv=>whnf))
    refine Bnd_i (by omega) ?_
    ((conv=>whnf);repeat((first|refine Ct ‹_› ?_|refine Cf ‹_› ?_|refine Ct rfl ?_|refine Cf rfl ?_|refine Bi rfl ?_|refine Bz rfl ?_|refine Lr ?_);conv=>whnf))
    refine Cnd_i (fun g3 => ?_) (fun g3 => ?_)
    · have d3 : r.tmod n = 0 := by
        simpa using g3
      ((conv=>whnf);repeat((first|refine Ct ‹_› ?_|refine Cf ‹_› ?_|refine Ct rfl ?_|refine Cf rfl ?_|refine Bi rfl ?_|refine Bz rfl ?_|refine Lr ?_);conv=>whnf))
      refine Bnd_i (by omega) ?_
      ((conv=>whnf);repeat((first|refine Ct ‹_› ?_|refine Cf ‹_› ?_|refine Ct rfl ?_|refine Cf rfl ?_|refine Bi rfl ?_|refine Bz rfl ?_|refine Lr ?_);conv=>whnf))
      refine Rw_self ?_
      ((conv=>whnf);repeat((first|refine Ct ‹_› ?_|refine Cf ‹_› ?_|refine Ct rfl ?_|refine Cf rfl ?_|refine Bi rfl ?_|refine Bz rfl ?_|refine Lr ?_);conv=>whnf))
      refine Bnd_i ?_ ?_
      · show out.length + 1 < _
        omega
      ((conv=>whnf);repeat((first|refine Ct ‹_› ?_|refine Cf ‹_› ?_|refine Ct rfl ?_|refine Cf rfl ?_|refine Bi rfl ?_|refine Bz rfl ?_|refine Lr ?_);conv=>whnf))
      refine Rw_i (rwH (out ++ [(L.getD t.toNat 0, spY q r n (L.getD t.toNat 0))])) (rwH_app _ (L.getD t.toNat 0, spY q r n (L.getD t.toNat 0)) _ (lt2 (by show cI _ = cI _; rfl) (by show cI _ = cI _; rw [spY, if_pos d3, wrapI (by omega)]))) ?_
      ((conv=>whnf);repeat((first|refine Ct ‹_› ?_|refine Cf ‹_› ?_|refine Ct rfl ?_|refine Cf rfl ?_|refine Bi rfl ?_|refine Bz rfl ?_|refine Lr ?_);conv=>whnf))
      refine ⟨m - 1, t + 1, out ++ [(L.getD t.toNat 0, spY q r n (L.getD t.toNat 0))], ?_, by omega, by omega, by omega, ?_⟩
      · rw [wrapI (by omega)]; rfl
      · rw [map_take _ L 0 t1 ht, ← t3]
    · have d3 : r.tmod n ≠ 0 := by
        simpa using g3
      ((conv=>whnf);repeat((first|refine Ct ‹_› ?_|refine Cf ‹_› ?_|refine Ct rfl ?_|refine Cf rfl ?_|refine Bi rfl ?_|refine Bz rfl ?_|refine Lr ?_);conv=>whnf))
      refine Bnd_i (by omega) ?_
      ((conv=>whnf);repeat((first|refine Ct ‹_› ?_|refine Cf ‹_› ?_|refine Ct rfl ?_|refine Cf rfl ?_|refine Bi rfl ?_|refine Bz rfl ?_|refine Lr ?_);conv=>whnf))
      refine Rw_self ?_
      ((conv=>whnf);repeat((first|refine Ct ‹_› ?_|refine Cf ‹_› ?_|refine Ct rfl ?_|refine Cf rfl ?_|refine Bi rfl ?_|refine Bz rfl ?_|refine Lr ?_);conv=>whnf))
      refine Bnd_i ?_ ?_
      · show out.length + 1 < _
        omega
      ((conv=>whnf);repeat((first|refine Ct ‹_› ?_|refine Cf ‹_› ?_|refine Ct rfl ?_|refine Cf rfl ?_|refine Bi rfl ?_|refine Bz rfl ?_|refine Lr ?_);conv=>whnf))
      refine Rw_i (rwH (out ++ [(L.getD t.toNat 0, spY q r n (L.getD t.toNat 0))])) (rwH_app _ (L.getD t.toNat 0, spY q r n (L.getD t.toNat 0)) _ (lt2 (by show cI _ = cI _; rfl) (by show cI _ = cI _; rw [spY, if_neg d3, wrapI (n := q + r) (by omega), wrapI (n := (q + r).tdiv n) (by omega), wrapI (by omega)]))) ?_
      ((conv=>whnf);repeat((first|refine Ct ‹_› ?_|refine Cf ‹_› ?_|refine Ct rfl ?_|refine Cf rfl ?_|refine Bi rfl ?_|refine Bz rfl ?_|refine Lr ?_);conv=>whnf))
      refine ⟨m - 1, t + 1, out ++ [(L.getD t.toNat 0, spY q r n (L.getD t.toNat 0))], ?_, by omega, by omega, by omega, ?_⟩
      · rw [wrapI (by omega)]; rfl
      · rw [map_take _ L 0 t1 ht, ← t3]
  · have ht := of_decide_eq_false g
    ((conv=>whnf);repeat((first|refine Ct ‹_› ?_|refine Cf ‹_› ?_|refine Ct rfl ?_|refine Cf rfl ?_|refine Bi rfl ?_|refine Bz rfl ?_|refine Lr ?_);conv=>whnf))
    rw [t3, show t.toNat = L.length by omega, List.take_length]
    exact ⟨rfl, rfl, rfl⟩

theorem far_w {q r n x y a c : Int} (hn : 1 ≤ n ∧ n ≤ 18) (hq : 0 ≤ q ∧ q ≤ 1000) (hr : 0 ≤ r ∧ r ≤ 1000) (ha : -1 ≤ a ∧ a ≤ 2) (hc : -1 ≤ c ∧ c ≤ 2) (hx : x = q.tdiv n + a) (hy : y = r.tdiv n + c) :
    IntKind.i64.wrap (IntKind.i64.wrap (IntKind.i64.wrap (IntKind.i64.wrap (IntKind.i64.wrap (n * x) - q) * IntKind.i64.wrap (IntKind.i64.wrap (n * x) - q)) + IntKind.i64.wrap (IntKind.i64.wrap (IntKind.i64.wrap (n * x) - q) * IntKind.i64.wrap (IntKind.i64.wrap (n * y) - r))) + IntKind.i64.wrap (IntKind.i64.wrap (IntKind.i64.wrap (n * y) - r) * IntKind.i64.wrap (IntKind.i64.wrap (n * y) - r))) = farO n (q.tmod n) (r.tmod n) a c := by
  obtain ⟨e1, e1b, e1c, e1d⟩ := dm hq hn.1
  obtain ⟨e2, e2b, e2c, e2d⟩ := dm hr hn.1
  have m1 := mul_b (a := n) (c := a) (A := 18) (C := 2) (by omega) (by omega)
  have m2 := mul_b (a := n) (c := c) (A := 18) (C := 2) (by omega) (by omega)
  have k1 : n * x = n * q.tdiv n + n * a := by rw [hx, Int.mul_add]
  have k2 : n * y = n * r.tdiv n + n * c := by rw [hy, Int.mul_add]
  have d1 : IntKind.i64.wrap (IntKind.i64.wrap (n * x) - q) = n * a - q.tmod n := by rw [wrapI (n := n * x) (by omega), wrapI (by omega)]; omega
  have d2 : IntKind.i64.wrap (IntKind.i64.wrap (n * y) - r) = n * c - r.tmod n := by rw [wrapI (n := n * y) (by omega), wrapI (by omega)]; omega
  rw [d1, d2]
  have p1 := mul_b (a := n * a - q.tmod n) (c := n * a - q.tmod n) (A := 54) (C := 54) (by omega) (by omega)
  have p2 := mul_b (a := n * a - q.tmod n) (c := n * c - r.tmod n) (A := 54) (C := 54) (by omega) (by omega)
  have p3 := mul_b (a := n * c - r.tmod n) (c := n * c - r.tmod n) (A := 54) (C := 54) (by omega) (by omega)
  unfold farO
  rw [wrapI (n := (n * a - q.tmod n) * (n * a - q.tmod n)) (by omega), wrapI (n := (n * a - q.tmod n) * (n * c - r.tmod n)) (by omega), wrapI (n := (n * c - r.tmod n) * (n * c - r.tmod n)) (by omega)]
  rw [wrapI (n := (n * a - q.tmod n) * (n * a - q.tmod n) + (n * a - q.tmod n) * (n * c - r.tmod n)) (by omega), wrapI (by omega)]
end Go.Proofs.YthaeflammjofeaaDoor.Ab
