/- Contracts of the functions that FnExactStateText reaches, by the abstract machine (part 1).
   Conditions: none. -/
import Derived.Test.YthleikolhjdffaaGreatDoorCStateText0
set_option linter.unusedVariables false
set_option linter.unusedSimpArgs false
namespace Go.Proofs.YthleikolhjdffaaGreatDoor.Ab
open Go Go.RowKit
attribute [local irreducible] Cnd Bnd Rw CallQ CallR Bts Isn Lc WLoop
set_option maxRecDepth 100000
set_option maxHeartbeats 1000000
theorem drop_get {α : Type} {l : List α} {d : α} {i : Int} (h0 : 0 ≤ i) (h1 : i < l.length) : l.drop i.toNat = l.getD i.toNat d :: l.drop (i + 1).toNat := by
  have hl : i.toNat < l.length := by omega
  rw [List.drop_eq_getElem_cons hl, show (i + 1).toNat = i.toNat + 1 by omega]
  simp [hl]

theorem szT_b {t : Ter} {left : Int} (h0 : 0 ≤ left) (h1 : left ≤ 1048576) : szT t left ≤ 1048576 ∧ (szT t left < 0 → szT t left = -1) := by
  unfold szT
  by_cases g : left - t.name.size < 0
  · rw [if_pos g]; exact ⟨by omega, fun _ => rfl⟩
  · rw [if_neg g]
    have := sub1_b (left := left - t.name.size) (n := t.cost.length) (by omega) (by omega) (by omega)
    omega

theorem szK_b {t : Knd} {left : Int} (h0 : 0 ≤ left) (h1 : left ≤ 1048576) : szK t left ≤ 1048576 ∧ (szK t left < 0 → szK t left = -1) := by
  unfold szK
  have := sub1_b (left := left) (n := t.name.size) h0 h1 (by omega)
  omega

theorem F_szTerrainS (l : List Ter) (hl : l.length ≤ maxLen) (ho : ∀ t ∈ l, t.Ok) (left : Int) (h0 : 0 ≤ left) (h1 : left ≤ 1048576) : Fun E0 56 [.one (roT l), vI left] [] (.v (vI (szS szT l left))) [] [] := by
  have hl : l.length ≤ 9223372036854775807 := hl
  refine Fun_of_xc k56 rfl rfl (fun k q h => by cases h) ?_
  ((conv=>whnf);repeat((first|refine Ct ‹_› ?_|refine Cf ‹_› ?_|refine Ct rfl ?_|refine Cf rfl ?_|refine Bi rfl ?_|refine Bz rfl ?_|refine Lr ?_);conv=>whnf))
  rw [wrapI (n := left - l.length) (by omega)]
  refine Cnd_i (fun g => ?_) (fun g => ?_)
  · have g := of_decide_eq_true g
    ((conv=>whnf);repeat((first|refine Ct ‹_› ?_|refine Cf ‹_› ?_|refine Ct rfl ?_|refine Cf rfl ?_|refine Bi rfl ?_|refine Bz rfl ?_|refine Lr ?_);conv=>whnf))
    refine ⟨?_, rfl, rfl⟩
    rw [szS, if_pos g]; rfl
  have g := of_decide_eq_false g
  rw [szS, if_neg g]
  ((conv=>whnf);repeat((first|refine Ct ‹_› ?_|refine Cf ‹_› ?_|refine Ct rfl ?_|refine Cf rfl ?_|refine Bi rfl ?_|refine Bz rfl ?_|refine Lr ?_);conv=>whnf))
  refine WLoop_v ⟨[0, 1, 5], [], []⟩ (fun p : Int × Int => hdS 27 [(0, .v (.one (roT l))), (1, .v (vI p.2)), (5, .v (vI p.1))] [] [])
    (fun k p => 0 ≤ p.1 ∧ p.1 + k = l.length ∧ (0 ≤ p.2 ∧ p.2 ≤ 1048576) ∧ szL szT l (left - l.length) = szL szT (l.drop p.1.toNat) p.2) l.length (0, left - l.length) rfl ⟨by omega, by omega, ⟨by omega, by omega⟩, rfl⟩ ?_
  rintro k ⟨i, x⟩ ⟨a1, a2, ⟨a3, a4⟩, a5⟩
  simp only at a1 a2 a3 a4 a5
  ((conv=>whnf);repeat((first|refine Ct ‹_› ?_|refine Cf ‹_› ?_|refine Ct rfl ?_|refine Cf rfl ?_|refine Bi rfl ?_|refine Bz rfl ?_|refine Lr ?_);conv=>whnf))
  refine Cnd_i (fun h => ?_) (fun h => ?_)
  · have hi' : i < l.length := of_decide_eq_true h
    have hb := szT_b (t := l.getD i.toNat Ter.d) a3 a4
    rw [drop_get (d := Ter.d) a1 hi'] at a5
    ((conv=>whnf);repeat((first|refine Ct ‹_› ?_|refine Cf ‹_› ?_|refine Ct rfl ?_|refine Cf rfl ?_|refine Bi rfl ?_|refine Bz rfl ?_|refine Lr ?_);conv=>whnf))
    refine Bnd_i ⟨a1, hi'⟩ ?_
    ((conv=>whnf);repeat((first|refine Ct ‹_› ?_|refine Cf ‹_› ?_|refine Ct rfl ?_|refine Cf rfl ?_|refine Bi rfl ?_|refine Bz rfl ?_|refine Lr ?_);conv=>whnf))
    refine CallQ_some (F_szTerrain (l.getD i.toNat Ter.d) (ho _ (getD_memT a1 hi')) x a3 a4) rfl rfl ?_
    ((conv=>whnf);repeat((first|refine Ct ‹_› ?_|refine Cf ‹_› ?_|refine Ct rfl ?_|refine Cf rfl ?_|refine Bi rfl ?_|refine Bz rfl ?_|refine Lr ?_);conv=>whnf))
    refine Cnd_i (fun g2 => ?_) (fun g2 => ?_)
    · have g2 := of_decide_eq_true g2
      ((conv=>whnf);repeat((first|refine Ct ‹_› ?_|refine Cf ‹_› ?_|refine Ct rfl ?_|refine Cf rfl ?_|refine Bi rfl ?_|refine Bz rfl ?_|refine Lr ?_);conv=>whnf))
      refine ⟨?_, rfl, rfl⟩
      rw [a5, szL, if_pos g2]; rfl
    · have g2 := of_decide_eq_false g2
      ((conv=>whnf);repeat((first|refine Ct ‹_› ?_|refine Cf ‹_› ?_|refine Ct rfl ?_|refine Cf rfl ?_|refine Bi rfl ?_|refine Bz rfl ?_|refine Lr ?_);conv=>whnf))
      refine ⟨k - 1, (IntKind.i64.wrap (i + 1), szT (l.getD i.toNat Ter.d) x), rfl, ?_, ?_, ?_, ⟨?_, hb.1⟩, ?_⟩
      · omega
      · simp only; rw [wrapI (by omega)]; omega
      · simp only; rw [wrapI (by omega)]; omega
      · simp only; omega
      · simp only; rw [wrapI (by omega), a5, szL, if_neg g2]
  · have hi' := of_decide_eq_false h
    ((conv=>whnf);repeat((first|refine Ct ‹_› ?_|refine Cf ‹_› ?_|refine Ct rfl ?_|refine Cf rfl ?_|refine Bi rfl ?_|refine Bz rfl ?_|refine Lr ?_);conv=>whnf))
    refine ⟨?_, rfl, rfl⟩
    have : l.drop i.toNat = [] := by rw [List.drop_eq_nil_iff]; omega
    rw [a5, this]; rfl

theorem F_szKindS (l : List Knd) (hl : l.length ≤ maxLen) (ho : ∀ t ∈ l, t.Ok) (left : Int) (h0 : 0 ≤ left) (h1 : left ≤ 1048576) : Fun E0 57 [.one (roK l), vI left] [] (.v (vI (szS szK l left))) [] [] := by
  have hl : l.length ≤ 9223372036854775807 := hl
  refine Fun_of_xc k57 rfl rfl (fun k q h => by cases h) ?_
  ((conv=>whnf);repeat((first|refine Ct ‹_› ?_|refine Cf ‹_› ?_|refine Ct rfl ?_|refine Cf rfl ?_|refine Bi rfl ?_|refine Bz rfl ?_|refine Lr ?_);conv=>whnf))
  rw [wrapI (n := left - l.length) (by omega)]
  refine Cnd_i (fun g => ?_) (fun g => ?_)
  · have g := of_decide_eq_true g
    ((conv=>whnf);repeat((first|refine Ct ‹_› ?_|refine Cf ‹_› ?_|refine Ct rfl ?_|refine Cf rfl ?_|refine Bi rfl ?_|refine Bz rfl ?_|refine Lr ?_);conv=>whnf))
    refine ⟨?_, rfl, rfl⟩
    rw [szS, if_pos g]; rfl
  have g := of_decide_eq_false g
  rw [szS, if_neg g]
  ((conv=>whnf);repeat((first|refine Ct ‹_› ?_|refine Cf ‹_› ?_|refine Ct rfl ?_|refine Cf rfl ?_|refine Bi rfl ?_|refine Bz rfl ?_|refine Lr ?_);conv=>whnf))
  refine WLoop_v ⟨[0, 1, 5], [], []⟩ (fun p : Int × Int => hdS 27 [(0, .v (.one (roK l))), (1, .v (vI p.2)), (5, .v (vI p.1))] [] [])
    (fun k p => 0 ≤ p.1 ∧ p.1 + k = l.length ∧ (0 ≤ p.2 ∧ p.2 ≤ 1048576) ∧ szL szK l (left - l.length) = szL szK (l.drop p.1.toNat) p.2) l.length (0, left - l.length) rfl ⟨by omega, by omega, ⟨by omega, by omega⟩, rfl⟩ ?_
  rintro k ⟨i, x⟩ ⟨a1, a2, ⟨a3, a4⟩, a5⟩
  simp only at a1 a2 a3 a4 a5
  ((conv=>whnf);repeat((first|refine Ct ‹_› ?_|refine Cf ‹_› ?_|refine Ct rfl ?_|refine Cf rfl ?_|refine Bi rfl ?_|refine Bz rfl ?_|refine Lr ?_);conv=>whnf))
  refine Cnd_i (fun h => ?_) (fun h => ?_)
  · have hi' : i < l.length := of_decide_eq_true h
    have hb := szK_b (t := l.getD i.toNat Knd.d) a3 a4
    rw [drop_get (d := Knd.d) a1 hi'] at a5
    ((conv=>whnf);repeat((first|refine Ct ‹_› ?_|refine Cf ‹_› ?_|refine Ct rfl ?_|refine Cf rfl ?_|refine Bi rfl ?_|refine Bz rfl ?_|refine Lr ?_);conv=>whnf))
    refine Bnd_i ⟨a1, hi'⟩ ?_
    ((conv=>whnf);repeat((first|refine Ct ‹_› ?_|refine Cf ‹_› ?_|refine Ct rfl ?_|refine Cf rfl ?_|refine Bi rfl ?_|refine Bz rfl ?_|refine Lr ?_);conv=>whnf))
    refine CallQ_some (F_szKind (l.getD i.toNat Knd.d) (ho _ (getD_memT a1 hi')) x a3 a4) rfl rfl ?_
    ((conv=>whnf);repeat((first|refine Ct ‹_› ?_|refine Cf ‹_› ?_|refine Ct rfl ?_|refine Cf rfl ?_|refine Bi rfl ?_|refine Bz rfl ?_|refine Lr ?_);conv=>whnf))
    refine Cnd_i (fun g2 => ?_) (fun g2 => ?_)
    · have g2 := of_decide_eq_true g2
      ((conv=>whnf);repeat((first|refine Ct ‹_› ?_|refine Cf ‹_› ?_|refine Ct rfl ?_|refine Cf rfl ?_|refine Bi rfl ?_|refine Bz rfl ?_|refine Lr ?_);conv=>whnf))
      refine ⟨?_, rfl, rfl⟩
      rw [a5, szL, if_pos g2]; rfl
    · have g2 := of_decide_eq_false g2
      ((conv=>whnf);repeat((first|refine Ct ‹_› ?_|refine Cf ‹_› ?_|refine Ct rfl ?_|refine Cf rfl ?_|refine Bi rfl ?_|refine Bz rfl ?_|refine Lr ?_);conv=>whnf))
      refine ⟨k - 1, (IntKind.i64.wrap (i + 1), szK (l.getD i.toNat Knd.d) x), rfl, ?_, ?_, ?_, ⟨?_, hb.1⟩, ?_⟩
      · omega
      · simp only; rw [wrapI (by omega)]; omega
      · simp only; rw [wrapI (by omega)]; omega
      · simp only; omega
      · simp only; rw [wrapI (by omega), a5, szL, if_neg g2]
  · have hi' := of_decide_eq_false h
    ((conv=>whnf);repeat((first|refine Ct ‹_› ?_|refine Cf ‹_› ?_|refine Ct rfl ?_|refine Cf rfl ?_|refine Bi rfl ?_|refine Bz rfl ?_|refine Lr ?_);conv=>whnf))
    refine ⟨?_, rfl, rfl⟩
    have : l.drop i.toNat = [] := by rw [List.drop_eq_nil_iff]; omega
    rw [a5, this]; rfl

theorem szL_b {α : Type} {f : α → Int → Int} (hf : ∀ a x, 0 ≤ x → x ≤ 1048576 → f a x ≤ 1048576) : ∀ (l : List α) (x : Int), 0 ≤ x → x ≤ 1048576 → szL f l x ≤ 1048576
  | [], _, _, h => h
  | a :: l, x, h0, h1 => by
    unfold szL
    by_cases g : f a x < 0
    · rw [if_pos g]; omega
    · rw [if_neg g]; exact szL_b hf l _ (by omega) (hf a x h0 h1)

theorem szS_b {α : Type} {f : α → Int → Int} (hf : ∀ a x, 0 ≤ x → x ≤ 1048576 → f a x ≤ 1048576) (l : List α) {x : Int} (h0 : 0 ≤ x) (h1 : x ≤ 1048576) : szS f l x ≤ 1048576 := by
  unfold szS
  by_cases g : x - l.length < 0
  · rw [if_pos g]; omega
  · rw [if_neg g]; exact szL_b hf l _ (by omega) (by omega)

def szR (r : Rul) (left : Int) : Int := if szS szT r.ter left < 0 then -1 else if szS szK r.knd (szS szT r.ter left) < 0 then -1 else szS szK r.knd (szS szT r.ter left)

theorem F_szRules (r : Rul) (ho : r.Ok) (left : Int) (h0 : 0 ≤ left) (h1 : left ≤ 1048576) : Fun E0 24 [.agg r.cs, vI left] [] (.v (vI (szR r left))) [] [] := by
  have b1 := szS_b (f := szT) (fun t x a b => (szT_b a b).1) r.ter h0 h1
  refine Fun_of_xc k24 rfl rfl (fun k q h => by cases h) ?_
  ((conv=>whnf);repeat((first|refine Ct ‹_› ?_|refine Cf ‹_› ?_|refine Ct rfl ?_|refine Cf rfl ?_|refine Bi rfl ?_|refine Bz rfl ?_|refine Lr ?_);conv=>whnf))
  refine CallQ_some (F_szTerrainS r.ter ho.lter ho.ter left h0 h1) rfl rfl ?_
  ((conv=>whnf);repeat((first|refine Ct ‹_› ?_|refine Cf ‹_› ?_|refine Ct rfl ?_|refine Cf rfl ?_|refine Bi rfl ?_|refine Bz rfl ?_|refine Lr ?_);conv=>whnf))
  refine Cnd_i (fun g => ?_) (fun g => ?_)
  · have g := of_decide_eq_true g
    ((conv=>whnf);repeat((first|refine Ct ‹_› ?_|refine Cf ‹_› ?_|refine Ct rfl ?_|refine Cf rfl ?_|refine Bi rfl ?_|refine Bz rfl ?_|refine Lr ?_);conv=>whnf))
    refine ⟨?_, rfl, rfl⟩
    rw [szR, if_pos g]; rfl
  have g := of_decide_eq_false g
  ((conv=>whnf);repeat((first|refine Ct ‹_› ?_|refine Cf ‹_› ?_|refine Ct rfl ?_|refine Cf rfl ?_|refine Bi rfl ?_|refine Bz rfl ?_|refine Lr ?_);conv=>whnf))
  refine CallQ_some (F_szKindS r.knd ho.lknd ho.knd _ (by omega) b1) rfl rfl ?_
  ((conv=>whnf);repeat((first|refine Ct ‹_› ?_|refine Cf ‹_› ?_|refine Ct rfl ?_|refine Cf rfl ?_|refine Bi rfl ?_|refine Bz rfl ?_|refine Lr ?_);conv=>whnf))
  refine Cnd_i (fun g2 => ?_) (fun g2 => ?_)
  · have g2 := of_decide_eq_true g2
    ((conv=>whnf);repeat((first|refine Ct ‹_› ?_|refine Cf ‹_› ?_|refine Ct rfl ?_|refine Cf rfl ?_|refine Bi rfl ?_|refine Bz rfl ?_|refine Lr ?_);conv=>whnf))
    refine ⟨?_, rfl, rfl⟩
    rw [szR, if_neg g, if_pos g2]; rfl
  · have g2 := of_decide_eq_false g2
    ((conv=>whnf);repeat((first|refine Ct ‹_› ?_|refine Cf ‹_› ?_|refine Ct rfl ?_|refine Cf rfl ?_|refine Bi rfl ?_|refine Bz rfl ?_|refine Lr ?_);conv=>whnf))
    refine ⟨?_, rfl, rfl⟩
    rw [szR, if_neg g, if_neg g2]; rfl

def szM (m : Map) (left : Int) : Int := if sub1 left m.ter.length < 0 then -1 else if sub1 (sub1 left m.ter.length) m.riv.length < 0 then -1 else sub1 (sub1 (sub1 left m.ter.length) m.riv.length) m.roa.length

theorem F_szMap (m : Map) (ho : m.Ok) (left : Int) (h0 : 0 ≤ left) (h1 : left ≤ 1048576) : Fun E0 25 [.agg m.cs, vI left] [] (.v (vI (szM m left))) [] [] := by
  have b1 := sub1_b (n := m.ter.length) h0 h1 (by omega)
  refine Fun_of_xc k25 rfl rfl (fun k q h => by cases h) ?_
  ((conv=>whnf);repeat((first|refine Ct ‹_› ?_|refine Cf ‹_› ?_|refine Ct rfl ?_|refine Cf rfl ?_|refine Bi rfl ?_|refine Bz rfl ?_|refine Lr ?_);conv=>whnf))
  refine CallQ_some (F_szIntS m.ter left ho.ter.len h0 h1) rfl rfl ?_
  ((conv=>whnf);repeat((first|refine Ct ‹_› ?_|refine Cf ‹_› ?_|refine Ct rfl ?_|refine Cf rfl ?_|refine Bi rfl ?_|refine Bz rfl ?_|refine Lr ?_);conv=>whnf))
  refine Cnd_i (fun g => ?_) (fun g => ?_)
  · have g := of_decide_eq_true g
    ((conv=>whnf);repeat((first|refine Ct ‹_› ?_|refine Cf ‹_› ?_|refine Ct rfl ?_|refine Cf rfl ?_|refine Bi rfl ?_|refine Bz rfl ?_|refine Lr ?_);conv=>whnf))
    refine ⟨?_, rfl, rfl⟩
    rw [szM, if_pos g]; rfl
  have g := of_decide_eq_false g
  have b2 := sub1_b (left := sub1 left m.ter.length) (n := m.riv.length) (by omega) (by omega) (by omega)
  ((conv=>whnf);repeat((first|refine Ct ‹_› ?_|refine Cf ‹_› ?_|refine Ct rfl ?_|refine Cf rfl ?_|refine Bi rfl ?_|refine Bz rfl ?_|refine Lr ?_);conv=>whnf))
  refine CallQ_some (F_szIntS m.riv _ ho.riv.len (by omega) (by omega)) rfl rfl ?_
  ((conv=>whnf);repeat((first|refine Ct ‹_› ?_|refine Cf ‹_› ?_|refine Ct rfl ?_|refine Cf rfl ?_|refine Bi rfl ?_|refine Bz rfl ?_|refine Lr ?_);conv=>whnf))
  refine Cnd_i (fun g2 => ?_) (fun g2 => ?_)
  · have g2 := of_decide_eq_true g2
    ((conv=>whnf);repeat((first|refine Ct ‹_› ?_|refine Cf ‹_› ?_|refine Ct rfl ?_|refine Cf rfl ?_|refine Bi rfl ?_|refine Bz rfl ?_|refine Lr ?_);conv=>whnf))
    refine ⟨?_, rfl, rfl⟩
    rw [szM, if_neg g, if_pos g2]; rfl
  have g2 := of_decide_eq_false g2
  have b3 := sub1_b (left := sub1 (sub1 left m.ter.length) m.riv.length) (n := m.roa.length) (by omega) (by omega) (by omega)
  ((conv=>whnf);repeat((first|refine Ct ‹_› ?_|refine Cf ‹_› ?_|refine Ct rfl ?_|refine Cf rfl ?_|refine Bi rfl ?_|refine Bz rfl ?_|refine Lr ?_);conv=>whnf))
  refine CallQ_some (F_szIntS m.roa _ ho.roa.len (by omega) (by omega)) rfl rfl ?_
  ((conv=>whnf);repeat((first|refine Ct ‹_› ?_|refine Cf ‹_› ?_|refine Ct rfl ?_|refine Cf rfl ?_|refine Bi rfl ?_|refine Bz rfl ?_|refine Lr ?_);conv=>whnf))
  refine Cnd_i (fun g3 => ?_) (fun g3 => ?_)
  · have g3 := of_decide_eq_true g3
    ((conv=>whnf);repeat((first|refine Ct ‹_› ?_|refine Cf ‹_› ?_|refine Ct rfl ?_|refine Cf rfl ?_|refine Bi rfl ?_|refine Bz rfl ?_|refine Lr ?_);conv=>whnf))
    refine ⟨?_, rfl, rfl⟩
    have : sub1 (sub1 (sub1 left m.ter.length) m.riv.length) m.roa.length = -1 := by omega
    rw [szM, if_neg g, if_neg g2, this]; rfl
  · ((conv=>whnf);repeat((first|refine Ct ‹_› ?_|refine Cf ‹_› ?_|refine Ct rfl ?_|refine Cf rfl ?_|refine Bi rfl ?_|refine Bz rfl ?_|refine Lr ?_);conv=>whnf))
    refine ⟨?_, rfl, rfl⟩
    rw [szM, if_neg g, if_neg g2]; rfl

theorem szR_b {r : Rul} {left : Int} (h0 : 0 ≤ left) (h1 : left ≤ 1048576) : szR r left ≤ 1048576 := by
  have b1 := szS_b (f := szT) (fun t x a b => (szT_b a b).1) r.ter h0 h1
  unfold szR
  by_cases g : szS szT r.ter left < 0
  · rw [if_pos g]; omega
  · rw [if_neg g]
    have b2 := szS_b (f := szK) (fun t x a b => (szK_b a b).1) r.knd (x := szS szT r.ter left) (by omega) b1
    by_cases g2 : szS szK r.knd (szS szT r.ter left) < 0
    · rw [if_pos g2]; omega
    · rw [if_neg g2]; exact b2

def szB (b : Brd) (left : Int) : Int := if szR b.r left < 0 then -1 else if szM b.m (szR b.r left) < 0 then -1 else szM b.m (szR b.r left)

theorem F_szBoard (b : Brd) (ho : b.Ok) (left : Int) (h0 : 0 ≤ left) (h1 : left ≤ 1048576) : Fun E0 6 [.agg b.cs, vI left] [] (.v (vI (szB b left))) [] [] := by
  have b1 := szR_b (r := b.r) h0 h1
  refine Fun_of_xc k6 rfl rfl (fun k q h => by cases h) ?_
  ((conv=>whnf);repeat((first|refine Ct ‹_› ?_|refine Cf ‹_› ?_|refine Ct rfl ?_|refine Cf rfl ?_|refine Bi rfl ?_|refine Bz rfl ?_|refine Lr ?_);conv=>whnf))
  refine CallQ_some (F_szRules b.r ho.r left h0 h1) rfl rfl ?_
  ((conv=>whnf);repeat((first|refine Ct ‹_› ?_|refine Cf ‹_› ?_|refine Ct rfl ?_|refine Cf rfl ?_|refine Bi rfl ?_|refine Bz rfl ?_|refine Lr ?_);conv=>whnf))
  refine Cnd_i (fun g => ?_) (fun g => ?_)
  · have g := of_decide_eq_true g
    ((conv=>whnf);repeat((first|refine Ct ‹_› ?_|refine Cf ‹_› ?_|refine Ct rfl ?_|refine Cf rfl ?_|refine Bi rfl ?_|refine Bz rfl ?_|refine Lr ?_);conv=>whnf))
    refine ⟨?_, rfl, rfl⟩
    rw [szB, if_pos g]; rfl
  have g := of_decide_eq_false g
  ((conv=>whnf);repeat((first|refine Ct ‹_› ?_|refine Cf ‹_› ?_|refine Ct rfl ?_|refine Cf rfl ?_|refine Bi rfl ?_|refine Bz rfl ?_|refine Lr ?_);conv=>whnf))
  refine CallQ_some (F_szMap b.m ho.m _ (by omega) b1) rfl rfl ?_
  ((conv=>whnf);repeat((first|refine Ct ‹_› ?_|refine Cf ‹_› ?_|refine Ct rfl ?_|refine Cf rfl ?_|refine Bi rfl ?_|refine Bz rfl ?_|refine Lr ?_);conv=>whnf))
  refine Cnd_i (fun g2 => ?_) (fun g2 => ?_)
  · have g2 := of_decide_eq_true g2
    ((conv=>whnf);repeat((first|refine Ct ‹_› ?_|refine Cf ‹_› ?_|refine Ct rfl ?_|refine Cf rfl ?_|refine Bi rfl ?_|refine Bz rfl ?_|refine Lr ?_);conv=>whnf))
    refine ⟨?_, rfl, rfl⟩
    rw [szB, if_neg g, if_pos g2]; rfl
  · have g2 := of_decide_eq_false g2
    ((conv=>whnf);repeat((first|refine Ct ‹_› ?_|refine Cf ‹_› ?_|refine Ct rfl ?_|refine Cf rfl ?_|refine Bi rfl ?_|refine Bz rfl ?_|refine Lr ?_);conv=>whnf))
    refine ⟨?_, rfl, rfl⟩
    rw [szB, if_neg g, if_neg g2]; rfl

/-- a row of numbers of one's own -/
abbrev rwI (l : List Int) : Row := ⟨false, 1, l.length, fun i _ => cI (l.getD i 0)⟩

/-- a row that is being filled -/
abbrev rwIu (l : List Int) (k : Int) : Row := ⟨false, 1, l.length, fun i _ => cI (if (i : Int) < k then l.getD i 0 else 0)⟩

theorem rwIu_full (l : List Int) : rwIu l (l.length : Int) = rwI l := by
  unfold rwIu rwI
  congr 1
  funext i j
  by_cases e : (i : Int) < l.length
  · rw [if_pos e]
  · rw [if_neg e]
    have : l.getD i 0 = 0 := by
      rw [List.getD_eq_getElem?_getD, List.getElem?_eq_none (by omega)]; rfl
    rw [this]

theorem noRo1 {k0 : Nat} {r : Row} (h : NoRo r) : ∀ k q, lk ([(k0, r)] ++ []) k = some q → NoRo q := by
  intro k q hk
  have hk : lk [(k0, r)] k = some q := by simpa using hk
  rw [lk_cons] at hk
  split at hk
  · cases hk; exact h
  · cases hk

theorem F_toIntS (l : List Int) (hl : l.length ≤ 1048576) : Fun E0 15 [.one (roI l)] [] (.v (.one (.own 0 l.length))) [(0, rwI l)] [] := by
  refine Fun_of_xc k15 rfl rfl (noRo1 (fun i j _ _ => rfl)) ?_
  ((conv=>whnf);repeat((first|refine Ct ‹_› ?_|refine Cf ‹_› ?_|refine Ct rfl ?_|refine Cf rfl ?_|refine Bi rfl ?_|refine Bz rfl ?_|refine Lr ?_);conv=>whnf))
  refine Rw_self ?_
  ((conv=>whnf);repeat((first|refine Ct ‹_› ?_|refine Cf ‹_› ?_|refine Ct rfl ?_|refine Cf rfl ?_|refine Bi rfl ?_|refine Bz rfl ?_|refine Lr ?_);conv=>whnf))
  refine Bnd_i (by omega) ?_
  ((conv=>whnf);repeat((first|refine Ct ‹_› ?_|refine Cf ‹_› ?_|refine Ct rfl ?_|refine Cf rfl ?_|refine Bi rfl ?_|refine Bz rfl ?_|refine Lr ?_);conv=>whnf))
  refine Rw_i (rwIu l 0) ⟨rfl, rfl, by simp [zeroRow], fun i j hi hj => ?_⟩ ?_
  · have hj : j < 1 := hj
    obtain rfl : j = 0 := by omega
    show cI 0 = cI (if (i : Int) < 0 then l.getD i 0 else 0)
    rw [if_neg (by omega)]
  ((conv=>whnf);repeat((first|refine Ct ‹_› ?_|refine Cf ‹_› ?_|refine Ct rfl ?_|refine Cf rfl ?_|refine Bi rfl ?_|refine Bz rfl ?_|refine Lr ?_);conv=>whnf))
  refine WLoop_v ⟨[0, 3, 4], [], []⟩ (fun i : Int => hdS 22 [(0, .v (.one (roI l))), (3, .v (.one (.own (vkey 3) l.length))), (4, .v (vI i))] [] [(vkey 3, rwIu l i)])
    (fun k i => 0 ≤ i ∧ i + k = l.length) l.length 0 rfl ⟨by omega, by omega⟩ ?_
  rintro k i ⟨h1, h2⟩
  ((conv=>whnf);repeat((first|refine Ct ‹_› ?_|refine Cf ‹_› ?_|refine Ct rfl ?_|refine Cf rfl ?_|refine Bi rfl ?_|refine Bz rfl ?_|refine Lr ?_);conv=>whnf))
  refine Cnd_i (fun h => ?_) (fun h => ?_)
  · have hi' : i < l.length := of_decide_eq_true h
    ((conv=>whnf);repeat((first|refine Ct ‹_› ?_|refine Cf ‹_› ?_|refine Ct rfl ?_|refine Cf rfl ?_|refine Bi rfl ?_|refine Bz rfl ?_|refine Lr ?_);conv=>whnf))
    refine Bnd_i ⟨h1, hi'⟩ ?_
    ((conv=>whnf);repeat((first|refine Ct ‹_› ?_|refine Cf ‹_› ?_|refine Ct rfl ?_|refine Cf rfl ?_|refine Bi rfl ?_|refine Bz rfl ?_|refine Lr ?_);conv=>whnf))
    refine Bnd_i ⟨h1, hi'⟩ ?_
    ((conv=>whnf);repeat((first|refine Ct ‹_› ?_|refine Cf ‹_› ?_|refine Ct rfl ?_|refine Cf rfl ?_|refine Bi rfl ?_|refine Bz rfl ?_|refine Lr ?_);conv=>whnf))
    refine Rw_i (rwIu l (i + 1)) ⟨rfl, rfl, rfl, fun i' j hi hj => ?_⟩ ?_
    · have hj : j < 1 := hj
      obtain rfl : j = 0 := by omega
      show wrG (rwIu l i).get i.toNat 0 [cI (l.getD i.toNat 0)] i' 0 = cI (if (i' : Int) < i + 1 then l.getD i' 0 else 0)
      by_cases e : i' = i.toNat
      · subst e
        rw [wrG_in (by simp), if_pos (by omega)]; rfl
      · rw [wrG_out (fun hh => e hh.1)]
        show cI (if (i' : Int) < i then l.getD i' 0 else 0) = _
        by_cases e2 : (i' : Int) < i
        · rw [if_pos e2, if_pos (by omega)]
        · rw [if_neg e2, if_neg (by omega)]
    ((conv=>whnf);repeat((first|refine Ct ‹_› ?_|refine Cf ‹_› ?_|refine Ct rfl ?_|refine Cf rfl ?_|refine Bi rfl ?_|refine Bz rfl ?_|refine Lr ?_);conv=>whnf))
    refine ⟨k - 1, i + 1, ?_, ?_, ?_, ?_⟩
    · rw [wrapI (by omega)]; rfl
    · omega
    · omega
    · omega
  · have hi' := of_decide_eq_false h
    ((conv=>whnf);repeat((first|refine Ct ‹_› ?_|refine Cf ‹_› ?_|refine Ct rfl ?_|refine Cf rfl ?_|refine Bi rfl ?_|refine Bz rfl ?_|refine Lr ?_);conv=>whnf))
    obtain rfl : i = (l.length : Int) := by omega
    rw [rwIu_full]
    exact ⟨rfl, rfl, rfl⟩

theorem nrN : ∀ k q, lk ([] : Ob) k = some q → NoRo q := fun _ _ h => by cases h

theorem nrC {k0 : Nat} {r : Row} {l : Ob} (h : NoRo r) (hl : ∀ k q, lk l k = some q → NoRo q) : ∀ k q, lk ((k0, r) :: l) k = some q → NoRo q := by
  intro k q hk
  rw [lk_cons] at hk
  split at hk
  · cases hk; exact h
  · exact hl k q hk

theorem rwI_no (l : List Int) : NoRo (rwI l) := fun _ _ _ _ => rfl

theorem F_toTerrain (t : Ter) (hc : t.cost.length ≤ 1048576) : Fun E0 97 [.agg t.cs] [] (.v (.agg [.str t.name, .own 1 t.cost.length, cI t.shift, cI t.height, .bool t.blocks])) [(1, rwI t.cost)] [] := by
  refine Fun_of_xc k97 rfl rfl (nrC (rwI_no _) nrN) ?_
  ((conv=>whnf);repeat((first|refine Ct ‹_› ?_|refine Cf ‹_› ?_|refine Ct rfl ?_|refine Cf rfl ?_|refine Bi rfl ?_|refine Bz rfl ?_|refine Lr ?_);conv=>whnf))
  refine CallQ_some (F_toIntS t.cost hc) rfl rfl ?_
  ((conv=>whnf);repeat((first|refine Ct ‹_› ?_|refine Cf ‹_› ?_|refine Ct rfl ?_|refine Cf rfl ?_|refine Bi rfl ?_|refine Bz rfl ?_|refine Lr ?_);conv=>whnf))
  exact ⟨rfl, rfl, rfl⟩

/-- a terrain in a row of one's own -/
abbrev Ter.cw (t : Ter) : List Cell := [.str t.name, .fr 1 t.cost.length fun i _ => cI (t.cost.getD i 0), cI t.shift, cI t.height, .bool t.blocks]

abbrev Ter.cz : List Cell := [.str ⟨#[]⟩, .ro 1 0 nog, cI 0, cI 0, .bool false]

abbrev rwT (l : List Ter) : Row := ⟨true, 5, l.length, fun i j => nth (l.getD i Ter.d).cw j⟩

abbrev rwTu (l : List Ter) (k : Int) : Row := ⟨true, 5, l.length, fun i j => if (i : Int) < k ∨ l.length ≤ i then nth (l.getD i Ter.d).cw j else nth Ter.cz j⟩

theorem rwT_no (l : List Ter) : NoRo (rwT l) := by
  intro i j _ hj
  have hj : j < 5 := hj
  match j, hj with
  | 0, _ => rfl
  | 1, _ => exact fun _ _ _ _ => rfl
  | 2, _ => rfl
  | 3, _ => rfl
  | 4, _ => rfl

theorem F_toTerrainS (l : List Ter) (hl : l.length ≤ 1048576) (hc : ∀ t ∈ l, t.cost.length ≤ 1048576) : Fun E0 63 [.one (roT l)] [] (.v (.one (.own 0 l.length))) [(0, rwT l)] [] := by
  refine Fun_of_xc k63 rfl rfl (nrC (rwT_no _) nrN) ?_
  ((conv=>whnf);repeat((first|refine Ct ‹_› ?_|refine Cf ‹_› ?_|refine Ct rfl ?_|refine Cf rfl ?_|refine Bi rfl ?_|refine Bz rfl ?_|refine Lr ?_);conv=>whnf))
  refine Rw_self ?_
  ((conv=>whnf);repeat((first|refine Ct ‹_› ?_|refine Cf ‹_› ?_|refine Ct rfl ?_|refine Cf rfl ?_|refine Bi rfl ?_|refine Bz rfl ?_|refine Lr ?_);conv=>whnf))
  refine Bnd_i (by omega) ?_
  ((conv=>whnf);repeat((first|refine Ct ‹_› ?_|refine Cf ‹_› ?_|refine Ct rfl ?_|refine Cf rfl ?_|refine Bi rfl ?_|refine Bz rfl ?_|refine Lr ?_);conv=>whnf))
  refine Rw_i (rwTu l 0) ⟨rfl, rfl, by simp [zeroRow], fun i j hi hj => ?_⟩ ?_
  · have hi : i < l.length := by simpa [zeroRow] using hi
    show nth Ter.cz j = if (i : Int) < 0 ∨ l.length ≤ i then nth (l.getD i Ter.d).cw j else nth Ter.cz j
    rw [if_neg (by omega)]
  ((conv=>whnf);repeat((first|refine Ct ‹_› ?_|refine Cf ‹_› ?_|refine Ct rfl ?_|refine Cf rfl ?_|refine Bi rfl ?_|refine Bz rfl ?_|refine Lr ?_);conv=>whnf))
  refine WLoop_v ⟨[0, 3, 4], [], []⟩ (fun i : Int => hdS 23 [(0, .v (.one (roT l))), (3, .v (.one (.own (vkey 3) l.length))), (4, .v (vI i))] [] [(vkey 3, rwTu l i)])
    (fun k i => 0 ≤ i ∧ i + k = l.length) l.length 0 rfl ⟨by omega, by omega⟩ ?_
  rintro k i ⟨h1, h2⟩
  ((conv=>whnf);repeat((first|refine Ct ‹_› ?_|refine Cf ‹_› ?_|refine Ct rfl ?_|refine Cf rfl ?_|refine Bi rfl ?_|refine Bz rfl ?_|refine Lr ?_);conv=>whnf))
  refine Cnd_i (fun h => ?_) (fun h => ?_)
  · have hi' : i < l.length := of_decide_eq_true h
    ((conv=>whnf);repeat((first|refine Ct ‹_› ?_|refine Cf ‹_› ?_|refine Ct rfl ?_|refine Cf rfl ?_|refine Bi rfl ?_|refine Bz rfl ?_|refine Lr ?_);conv=>whnf))
    refine Bnd_i ⟨h1, hi'⟩ ?_
    ((conv=>whnf);repeat((first|refine Ct ‹_› ?_|refine Cf ‹_› ?_|refine Ct rfl ?_|refine Cf rfl ?_|refine Bi rfl ?_|refine Bz rfl ?_|refine Lr ?_);conv=>whnf))
    refine CallQ_some (F_toTerrain (l.getD i.toNat Ter.d) (hc _ (getD_memT h1 hi'))) rfl rfl ?_
    ((conv=>whnf);repeat((first|refine Ct ‹_› ?_|refine Cf ‹_› ?_|refine Ct rfl ?_|refine Cf rfl ?_|refine Bi rfl ?_|refine Bz rfl ?_|refine Lr ?_);conv=>whnf))
    refine Bnd_i ⟨h1, hi'⟩ ?_
    ((conv=>whnf);repeat((first|refine Ct ‹_› ?_|refine Cf ‹_› ?_|refine Ct rfl ?_|refine Cf rfl ?_|refine Bi rfl ?_|refine Bz rfl ?_|refine Lr ?_);conv=>whnf))
    refine Rw_i (rwTu l (i + 1)) ⟨rfl, rfl, rfl, fun i' j hi hj => ?_⟩ ?_
    · have hj : j < 5 := hj
      have hi : i' < l.length := hi
      show wrG (rwTu l i).get i.toNat 0 (l.getD i.toNat Ter.d).cw i' j = if (i' : Int) < i + 1 ∨ l.length ≤ i' then nth (l.getD i' Ter.d).cw j else nth Ter.cz j
      by_cases e : i' = i.toNat
      · subst e
        rw [wrG_in (by simp; omega), if_pos (by omega)]; rfl
      · rw [wrG_out (fun hh => e hh.1)]
        show (if (i' : Int) < i ∨ l.length ≤ i' then nth (l.getD i' Ter.d).cw j else nth Ter.cz j) = _
        by_cases e2 : (i' : Int) < i
        · rw [if_pos (.inl e2), if_pos (.inl (by omega))]
        · rw [if_neg (by omega), if_neg (by omega)]
    ((conv=>whnf);repeat((first|refine Ct ‹_› ?_|refine Cf ‹_› ?_|refine Ct rfl ?_|refine Cf rfl ?_|refine Bi rfl ?_|refine Bz rfl ?_|refine Lr ?_);conv=>whnf))
    refine ⟨k - 1, i + 1, ?_, ?_, ?_, ?_⟩
    · rw [wrapI (by omega)]; rfl
    · omega
    · omega
    · omega
  · have hi' := of_decide_eq_false h
    ((conv=>whnf);repeat((first|refine Ct ‹_› ?_|refine Cf ‹_› ?_|refine Ct rfl ?_|refine Cf rfl ?_|refine Bi rfl ?_|refine Bz rfl ?_|refine Lr ?_);conv=>whnf))
    have e : rwTu l i = rwT l := by
      unfold rwTu rwT
      congr 1
      funext i' j
      rw [if_pos (by omega)]
    rw [e]
    exact ⟨rfl, rfl, rfl⟩

theorem F_toKind (t : Knd) : Fun E0 98 [.agg t.cs] [] (.v (.agg t.cs)) [] [] := by
  refine Fun_of_xc k98 rfl rfl (fun k q h => by cases h) ?_
  ((conv=>whnf);repeat((first|refine Ct ‹_› ?_|refine Cf ‹_› ?_|refine Ct rfl ?_|refine Cf rfl ?_|refine Bi rfl ?_|refine Bz rfl ?_|refine Lr ?_);conv=>whnf))
  exact ⟨rfl, rfl, rfl⟩

abbrev Knd.cz : List Cell := [.str ⟨#[]⟩, cI 0, cI 0, cI 0, .bool false, cI 0]

abbrev rwK (l : List Knd) : Row := ⟨false, 6, l.length, fun i j => nth (l.getD i Knd.d).cs j⟩

abbrev rwKu (l : List Knd) (k : Int) : Row := ⟨false, 6, l.length, fun i j => if (i : Int) < k ∨ l.length ≤ i then nth (l.getD i Knd.d).cs j else nth Knd.cz j⟩

theorem rwK_no (l : List Knd) : NoRo (rwK l) := by
  intro i j _ hj
  have hj : j < 6 := hj
  match j, hj with
  | 0, _ => rfl
  | 1, _ => rfl
  | 2, _ => rfl
  | 3, _ => rfl
  | 4, _ => rfl
  | 5, _ => rfl

theorem F_toKindS (l : List Knd) (hl : l.length ≤ 1048576) : Fun E0 64 [.one (roK l)] [] (.v (.one (.own 0 l.length))) [(0, rwK l)] [] := by
  refine Fun_of_xc k64 rfl rfl (nrC (rwK_no _) nrN) ?_
  ((conv=>whnf);repeat((first|refine Ct ‹_› ?_|refine Cf ‹_› ?_|refine Ct rfl ?_|refine Cf rfl ?_|refine Bi rfl ?_|refine Bz rfl ?_|refine Lr ?_);conv=>whnf))
  refine Rw_self ?_
  ((conv=>whnf);repeat((first|refine Ct ‹_› ?_|refine Cf ‹_› ?_|refine Ct rfl ?_|refine Cf rfl ?_|refine Bi rfl ?_|refine Bz rfl ?_|refine Lr ?_);conv=>whnf))
  refine Bnd_i (by omega) ?_
  ((conv=>whnf);repeat((first|refine Ct ‹_› ?_|refine Cf ‹_› ?_|refine Ct rfl ?_|refine Cf rfl ?_|refine Bi rfl ?_|refine Bz rfl ?_|refine Lr ?_);conv=>whnf))
  refine Rw_i (rwKu l 0) ⟨rfl, rfl, by simp [zeroRow], fun i j hi hj => ?_⟩ ?_
  · have hi : i < l.length := by simpa [zeroRow] using hi
    show nth Knd.cz j = if (i : Int) < 0 ∨ l.length ≤ i then nth (l.getD i Knd.d).cs j else nth Knd.cz j
    rw [if_neg (by omega)]
  ((conv=>whnf);repeat((first|refine Ct ‹_› ?_|refine Cf ‹_› ?_|refine Ct rfl ?_|refine Cf rfl ?_|refine Bi rfl ?_|refine Bz rfl ?_|refine Lr ?_);conv=>whnf))
  refine WLoop_v ⟨[0, 3, 4], [], []⟩ (fun i : Int => hdS 23 [(0, .v (.one (roK l))), (3, .v (.one (.own (vkey 3) l.length))), (4, .v (vI i))] [] [(vkey 3, rwKu l i)])
    (fun k i => 0 ≤ i ∧ i + k = l.length) l.length 0 rfl ⟨by omega, by omega⟩ ?_
  rintro k i ⟨h1, h2⟩
  ((conv=>whnf);repeat((first|refine Ct ‹_› ?_|refine Cf ‹_› ?_|refine Ct rfl ?_|refine Cf rfl ?_|refine Bi rfl ?_|refine Bz rfl ?_|refine Lr ?_);conv=>whnf))
  refine Cnd_i (fun h => ?_) (fun h => ?_)
  · have hi' : i < l.length := of_decide_eq_true h
    ((conv=>whnf);repeat((first|refine Ct ‹_› ?_|refine Cf ‹_› ?_|refine Ct rfl ?_|refine Cf rfl ?_|refine Bi rfl ?_|refine Bz rfl ?_|refine Lr ?_);conv=>whnf))
    refine Bnd_i ⟨h1, hi'⟩ ?_
    ((conv=>whnf);repeat((first|refine Ct ‹_› ?_|refine Cf ‹_› ?_|refine Ct rfl ?_|refine Cf rfl ?_|refine Bi rfl ?_|refine Bz rfl ?_|refine Lr ?_);conv=>whnf))
    refine CallQ_some (F_toKind (l.getD i.toNat Knd.d)) rfl rfl ?_
    ((conv=>whnf);repeat((first|refine Ct ‹_› ?_|refine Cf ‹_› ?_|refine Ct rfl ?_|refine Cf rfl ?_|refine Bi rfl ?_|refine Bz rfl ?_|refine Lr ?_);conv=>whnf))
    refine Bnd_i ⟨h1, hi'⟩ ?_
    ((conv=>whnf);repeat((first|refine Ct ‹_› ?_|refine Cf ‹_› ?_|refine Ct rfl ?_|refine Cf rfl ?_|refine Bi rfl ?_|refine Bz rfl ?_|refine Lr ?_);conv=>whnf))
    refine Rw_i (rwKu l (i + 1)) ⟨rfl, rfl, rfl, fun i' j hi hj => ?_⟩ ?_
    · have hj : j < 6 := hj
      have hi : i' < l.length := hi
      show wrG (rwKu l i).get i.toNat 0 (l.getD i.toNat Knd.d).cs i' j = if (i' : Int) < i + 1 ∨ l.length ≤ i' then nth (l.getD i' Knd.d).cs j else nth Knd.cz j
      by_cases e : i' = i.toNat
      · subst e
        rw [wrG_in (by simp; omega), if_pos (by omega)]; rfl
      · rw [wrG_out (fun hh => e hh.1)]
        show (if (i' : Int) < i ∨ l.length ≤ i' then nth (l.getD i' Knd.d).cs j else nth Knd.cz j) = _
        by_cases e2 : (i' : Int) < i
        · rw [if_pos (.inl e2), if_pos (.inl (by omega))]
        · rw [if_neg (by omega), if_neg (by omega)]
    ((conv=>whnf);repeat((first|refine Ct ‹_› ?_|refine Cf ‹_› ?_|refine Ct rfl ?_|refine Cf rfl ?_|refine Bi rfl ?_|refine Bz rfl ?_|refine Lr ?_);conv=>whnf))
    refine ⟨k - 1, i + 1, ?_, ?_, ?_, ?_⟩
    · rw [wrapI (by omega)]; rfl
    · omega
    · omega
    · omega
  · have hi' := of_decide_eq_false h
    ((conv=>whnf);repeat((first|refine Ct ‹_› ?_|refine Cf ‹_› ?_|refine Ct rfl ?_|refine Cf rfl ?_|refine Bi rfl ?_|refine Bz rfl ?_|refine Lr ?_);conv=>whnf))
    have e : rwKu l i = rwK l := by
      unfold rwKu rwK
      congr 1
      funext i' j
      rw [if_pos (by omega)]
    rw [e]
    exact ⟨rfl, rfl, rfl⟩

/-- what a copy asks: no list of more than 2^20 elements -/
structure Rul.Sm (r : Rul) : Prop where
  ter : r.ter.length ≤ 1048576
  cost : ∀ t ∈ r.ter, t.cost.length ≤ 1048576
  knd : r.knd.length ≤ 1048576

structure Map.Sm (m : Map) : Prop where
  ter : m.ter.length ≤ 1048576
  riv : m.riv.length ≤ 1048576
  roa : m.roa.length ≤ 1048576

structure Brd.Sm (b : Brd) : Prop where
  r : b.r.Sm
  m : b.m.Sm

theorem F_toRules (r : Rul) (h : r.Sm) : Fun E0 29 [.agg r.cs] [] (.v (.agg [.own 0 r.ter.length, .own 1 r.knd.length, cI r.stack, cI r.river, cI r.road, cI r.supply, cI r.turns])) [(0, rwT r.ter), (1, rwK r.knd)] [] := by
  refine Fun_of_xc k29 rfl rfl (nrC (rwT_no _) (nrC (rwK_no _) nrN)) ?_
  ((conv=>whnf);repeat((first|refine Ct ‹_› ?_|refine Cf ‹_› ?_|refine Ct rfl ?_|refine Cf rfl ?_|refine Bi rfl ?_|refine Bz rfl ?_|refine Lr ?_);conv=>whnf))
  refine CallQ_some (F_toTerrainS r.ter h.ter h.cost) rfl rfl ?_
  ((conv=>whnf);repeat((first|refine Ct ‹_› ?_|refine Cf ‹_› ?_|refine Ct rfl ?_|refine Cf rfl ?_|refine Bi rfl ?_|refine Bz rfl ?_|refine Lr ?_);conv=>whnf))
  refine CallQ_some (F_toKindS r.knd h.knd) rfl rfl ?_
  ((conv=>whnf);repeat((first|refine Ct ‹_› ?_|refine Cf ‹_› ?_|refine Ct rfl ?_|refine Cf rfl ?_|refine Bi rfl ?_|refine Bz rfl ?_|refine Lr ?_);conv=>whnf))
  exact ⟨rfl, rfl, rfl⟩

theorem F_toMap (m : Map) (h : m.Sm) : Fun E0 30 [.agg m.cs] [] (.v (.agg [cI m.w, cI m.h, .own 2 m.ter.length, .own 3 m.riv.length, .own 4 m.roa.length])) [(2, rwI m.ter), (3, rwI m.riv), (4, rwI m.roa)] [] := by
  refine Fun_of_xc k30 rfl rfl (nrC (rwI_no _) (nrC (rwI_no _) (nrC (rwI_no _) nrN))) ?_
  ((conv=>whnf);repeat((first|refine Ct ‹_› ?_|refine Cf ‹_› ?_|refine Ct rfl ?_|refine Cf rfl ?_|refine Bi rfl ?_|refine Bz rfl ?_|refine Lr ?_);conv=>whnf))
  refine CallQ_some (F_toIntS m.ter h.ter) rfl rfl ?_
  ((conv=>whnf);repeat((first|refine Ct ‹_› ?_|refine Cf ‹_› ?_|refine Ct rfl ?_|refine Cf rfl ?_|refine Bi rfl ?_|refine Bz rfl ?_|refine Lr ?_);conv=>whnf))
  refine CallQ_some (F_toIntS m.riv h.riv) rfl rfl ?_
  ((conv=>whnf);repeat((first|refine Ct ‹_› ?_|refine Cf ‹_› ?_|refine Ct rfl ?_|refine Cf rfl ?_|refine Bi rfl ?_|refine Bz rfl ?_|refine Lr ?_);conv=>whnf))
  refine CallQ_some (F_toIntS m.roa h.roa) rfl rfl ?_
  ((conv=>whnf);repeat((first|refine Ct ‹_› ?_|refine Cf ‹_› ?_|refine Ct rfl ?_|refine Cf rfl ?_|refine Bi rfl ?_|refine Bz rfl ?_|refine Lr ?_);conv=>whnf))
  exact ⟨rfl, rfl, rfl⟩

abbrev Brd.cw (b : Brd) : List Cell := [.own 0 b.r.ter.length, .own 1 b.r.knd.length, cI b.r.stack, cI b.r.river, cI b.r.road, cI b.r.supply, cI b.r.turns, cI b.m.w, cI b.m.h, .own 9 b.m.ter.length, .own 10 b.m.riv.length, .own 11 b.m.roa.length]

abbrev Brd.rows (b : Brd) : Ob := [(0, rwT b.r.ter), (1, rwK b.r.knd), (9, rwI b.m.ter), (10, rwI b.m.riv), (11, rwI b.m.roa)]

theorem F_toBoard (b : Brd) (h : b.Sm) : Fun E0 9 [.agg b.cs] [] (.v (.agg b.cw)) b.rows [] := by
  refine Fun_of_xc k9 rfl rfl (nrC (rwT_no _) (nrC (rwK_no _) (nrC (rwI_no _) (nrC (rwI_no _) (nrC (rwI_no _) nrN))))) ?_
  ((conv=>whnf);repeat((first|refine Ct ‹_› ?_|refine Cf ‹_› ?_|refine Ct rfl ?_|refine Cf rfl ?_|refine Bi rfl ?_|refine Bz rfl ?_|refine Lr ?_);conv=>whnf))
  refine CallQ_some (F_toRules b.r h.r) rfl rfl ?_
  ((conv=>whnf);repeat((first|refine Ct ‹_› ?_|refine Cf ‹_› ?_|refine Ct rfl ?_|refine Cf rfl ?_|refine Bi rfl ?_|refine Bz rfl ?_|refine Lr ?_);conv=>whnf))
  refine CallQ_some (F_toMap b.m h.m) rfl rfl ?_
  ((conv=>whnf);repeat((first|refine Ct ‹_› ?_|refine Cf ‹_› ?_|refine Ct rfl ?_|refine Cf rfl ?_|refine Bi rfl ?_|refine Bz rfl ?_|refine Lr ?_);conv=>whnf))
  exact ⟨rfl, rfl, rfl⟩

theorem F_eqIntS (l : List Int) (hl : l.length ≤ 1048576) : Fun E0 17 [.one (roI l), .one (roI l)] [] (.v (vB true)) [] [] := by
  refine Fun_of_xc k17 rfl rfl (fun k q h => by cases h) ?_
  ((conv=>whnf);repeat((first|refine Ct ‹_› ?_|refine Cf ‹_› ?_|refine Ct rfl ?_|refine Cf rfl ?_|refine Bi rfl ?_|refine Bz rfl ?_|refine Lr ?_);conv=>whnf))
  refine Cnd_f (by simp) ?_
  ((conv=>whnf);repeat((first|refine Ct ‹_› ?_|refine Cf ‹_› ?_|refine Ct rfl ?_|refine Cf rfl ?_|refine Bi rfl ?_|refine Bz rfl ?_|refine Lr ?_);conv=>whnf))
  refine WLoop_v ⟨[0, 1, 5], [], []⟩ (fun i : Int => hdS 26 [(0, .v (.one (roI l))), (1, .v (.one (roI l))), (5, .v (vI i))] [] [])
    (fun k i => 0 ≤ i ∧ i + k = l.length) l.length 0 rfl ⟨by omega, by omega⟩ ?_
  rintro k i ⟨h1, h2⟩
  ((conv=>whnf);repeat((first|refine Ct ‹_› ?_|refine Cf ‹_› ?_|refine Ct rfl ?_|refine Cf rfl ?_|refine Bi rfl ?_|refine Bz rfl ?_|refine Lr ?_);conv=>whnf))
  refine Cnd_i (fun h => ?_) (fun h => ?_)
  · have hi' : i < l.length := of_decide_eq_true h
    ((conv=>whnf);repeat((first|refine Ct ‹_› ?_|refine Cf ‹_› ?_|refine Ct rfl ?_|refine Cf rfl ?_|refine Bi rfl ?_|refine Bz rfl ?_|refine Lr ?_);conv=>whnf))
    refine Bnd_i ⟨h1, hi'⟩ ?_
    ((conv=>whnf);repeat((first|refine Ct ‹_› ?_|refine Cf ‹_› ?_|refine Ct rfl ?_|refine Cf rfl ?_|refine Bi rfl ?_|refine Bz rfl ?_|refine Lr ?_);conv=>whnf))
    refine Bnd_i ⟨h1, hi'⟩ ?_
    ((conv=>whnf);repeat((first|refine Ct ‹_› ?_|refine Cf ‹_› ?_|refine Ct rfl ?_|refine Cf rfl ?_|refine Bi rfl ?_|refine Bz rfl ?_|refine Lr ?_);conv=>whnf))
    refine Cnd_f (by simp) ?_
    ((conv=>whnf);repeat((first|refine Ct ‹_› ?_|refine Cf ‹_› ?_|refine Ct rfl ?_|refine Cf rfl ?_|refine Bi rfl ?_|refine Bz rfl ?_|refine Lr ?_);conv=>whnf))
    refine ⟨k - 1, i + 1, ?_, ?_, ?_, ?_⟩
    · rw [wrapI (by omega)]; rfl
    · omega
    · omega
    · omega
  · ((conv=>whnf);repeat((first|refine Ct ‹_› ?_|refine Cf ‹_› ?_|refine Ct rfl ?_|refine Cf rfl ?_|refine Bi rfl ?_|refine Bz rfl ?_|refine Lr ?_);conv=>whnf))
    exact ⟨rfl, rfl, rfl⟩

theorem F_eqTerrain (t : Ter) (hc : t.cost.length ≤ 1048576) : Fun E0 105 [.agg t.cs, .agg t.cs] [] (.v (vB true)) [] [] := by
  refine Fun_of_xc k105 rfl rfl (fun k q h => by cases h) ?_
  ((conv=>whnf);repeat((first|refine Ct ‹_› ?_|refine Cf ‹_› ?_|refine Ct rfl ?_|refine Cf rfl ?_|refine Bi rfl ?_|refine Bz rfl ?_|refine Lr ?_);conv=>whnf))
  refine Cnd_f (by simp) ?_
  ((conv=>whnf);repeat((first|refine Ct ‹_› ?_|refine Cf ‹_› ?_|refine Ct rfl ?_|refine Cf rfl ?_|refine Bi rfl ?_|refine Bz rfl ?_|refine Lr ?_);conv=>whnf))
  refine CallQ_some (F_eqIntS t.cost hc) rfl rfl ?_
  ((conv=>whnf);repeat((first|refine Ct ‹_› ?_|refine Cf ‹_› ?_|refine Ct rfl ?_|refine Cf rfl ?_|refine Bi rfl ?_|refine Bz rfl ?_|refine Lr ?_);conv=>whnf))
  refine Cnd_f (by simp) ?_
  ((conv=>whnf);repeat((first|refine Ct ‹_› ?_|refine Cf ‹_› ?_|refine Ct rfl ?_|refine Cf rfl ?_|refine Bi rfl ?_|refine Bz rfl ?_|refine Lr ?_);conv=>whnf))
  refine Cnd_f (by simp) ?_
  ((conv=>whnf);repeat((first|refine Ct ‹_› ?_|refine Cf ‹_› ?_|refine Ct rfl ?_|refine Cf rfl ?_|refine Bi rfl ?_|refine Bz rfl ?_|refine Lr ?_);conv=>whnf))
  refine Cnd_f (by simp) ?_
  ((conv=>whnf);repeat((first|refine Ct ‹_› ?_|refine Cf ‹_› ?_|refine Ct rfl ?_|refine Cf rfl ?_|refine Bi rfl ?_|refine Bz rfl ?_|refine Lr ?_);conv=>whnf))
  exact ⟨rfl, rfl, rfl⟩

theorem F_eqTerrainS (l : List Ter) (hl : l.length ≤ 1048576) (hc : ∀ t ∈ l, t.cost.length ≤ 1048576) : Fun E0 71 [.one (roT l), .one (roT l)] [] (.v (vB true)) [] [] := by
  refine Fun_of_xc k71 rfl rfl (fun k q h => by cases h) ?_
  ((conv=>whnf);repeat((first|refine Ct ‹_› ?_|refine Cf ‹_› ?_|refine Ct rfl ?_|refine Cf rfl ?_|refine Bi rfl ?_|refine Bz rfl ?_|refine Lr ?_);conv=>whnf))
  refine Cnd_f (by simp) ?_
  ((conv=>whnf);repeat((first|refine Ct ‹_› ?_|refine Cf ‹_› ?_|refine Ct rfl ?_|refine Cf rfl ?_|refine Bi rfl ?_|refine Bz rfl ?_|refine Lr ?_);conv=>whnf))
  refine WLoop_v ⟨[0, 1, 5], [], []⟩ (fun i : Int => hdS 27 [(0, .v (.one (roT l))), (1, .v (.one (roT l))), (5, .v (vI i))] [] [])
    (fun k i => 0 ≤ i ∧ i + k = l.length) l.length 0 rfl ⟨by omega, by omega⟩ ?_
  rintro k i ⟨h1, h2⟩
  ((conv=>whnf);repeat((first|refine Ct ‹_› ?_|refine Cf ‹_› ?_|refine Ct rfl ?_|refine Cf rfl ?_|refine Bi rfl ?_|refine Bz rfl ?_|refine Lr ?_);conv=>whnf))
  refine Cnd_i (fun h => ?_) (fun h => ?_)
  · have hi' : i < l.length := of_decide_eq_true h
    ((conv=>whnf);repeat((first|refine Ct ‹_› ?_|refine Cf ‹_› ?_|refine Ct rfl ?_|refine Cf rfl ?_|refine Bi rfl ?_|refine Bz rfl ?_|refine Lr ?_);conv=>whnf))
    refine Bnd_i ⟨h1, hi'⟩ ?_
    ((conv=>whnf);repeat((first|refine Ct ‹_› ?_|refine Cf ‹_› ?_|refine Ct rfl ?_|refine Cf rfl ?_|refine Bi rfl ?_|refine Bz rfl ?_|refine Lr ?_);conv=>whnf))
    refine Bnd_i ⟨h1, hi'⟩ ?_
    ((conv=>whnf);repeat((first|refine Ct ‹_› ?_|refine Cf ‹_› ?_|refine Ct rfl ?_|refine Cf rfl ?_|refine Bi rfl ?_|refine Bz rfl ?_|refine Lr ?_);conv=>whnf))
    refine CallQ_some (F_eqTerrain (l.getD i.toNat Ter.d) (hc _ (getD_memT h1 hi'))) rfl rfl ?_
    ((conv=>whnf);repeat((first|refine Ct ‹_› ?_|refine Cf ‹_› ?_|refine Ct rfl ?_|refine Cf rfl ?_|refine Bi rfl ?_|refine Bz rfl ?_|refine Lr ?_);conv=>whnf))
    refine ⟨k - 1, i + 1, ?_, ?_, ?_, ?_⟩
    · rw [wrapI (by omega)]; rfl
    · omega
    · omega
    · omega
  · ((conv=>whnf);repeat((first|refine Ct ‹_› ?_|refine Cf ‹_› ?_|refine Ct rfl ?_|refine Cf rfl ?_|refine Bi rfl ?_|refine Bz rfl ?_|refine Lr ?_);conv=>whnf))
    exact ⟨rfl, rfl, rfl⟩

theorem F_eqKind (t : Knd) : Fun E0 106 [.agg t.cs, .agg t.cs] [] (.v (vB true)) [] [] := by
  refine Fun_of_xc k106 rfl rfl (fun k q h => by cases h) ?_
  ((conv=>whnf);repeat((first|refine Ct ‹_› ?_|refine Cf ‹_› ?_|refine Ct rfl ?_|refine Cf rfl ?_|refine Bi rfl ?_|refine Bz rfl ?_|refine Lr ?_);conv=>whnf))
  refine Cnd_f (by simp) ?_
  ((conv=>whnf);repeat((first|refine Ct ‹_› ?_|refine Cf ‹_› ?_|refine Ct rfl ?_|refine Cf rfl ?_|refine Bi rfl ?_|refine Bz rfl ?_|refine Lr ?_);conv=>whnf))
  refine Cnd_f (by simp) ?_
  ((conv=>whnf);repeat((first|refine Ct ‹_› ?_|refine Cf ‹_› ?_|refine Ct rfl ?_|refine Cf rfl ?_|refine Bi rfl ?_|refine Bz rfl ?_|refine Lr ?_);conv=>whnf))
  refine Cnd_f (by simp) ?_
  ((conv=>whnf);repeat((first|refine Ct ‹_› ?_|refine Cf ‹_› ?_|refine Ct rfl ?_|refine Cf rfl ?_|refine Bi rfl ?_|refine Bz rfl ?_|refine Lr ?_);conv=>whnf))
  refine Cnd_f (by simp) ?_
  ((conv=>whnf);repeat((first|refine Ct ‹_› ?_|refine Cf ‹_› ?_|refine Ct rfl ?_|refine Cf rfl ?_|refine Bi rfl ?_|refine Bz rfl ?_|refine Lr ?_);conv=>whnf))
  refine Cnd_f (by simp) ?_
  ((conv=>whnf);repeat((first|refine Ct ‹_› ?_|refine Cf ‹_› ?_|refine Ct rfl ?_|refine Cf rfl ?_|refine Bi rfl ?_|refine Bz rfl ?_|refine Lr ?_);conv=>whnf))
  refine Cnd_f (by simp) ?_
  ((conv=>whnf);repeat((first|refine Ct ‹_› ?_|refine Cf ‹_› ?_|refine Ct rfl ?_|refine Cf rfl ?_|refine Bi rfl ?_|refine Bz rfl ?_|refine Lr ?_);conv=>whnf))
  exact ⟨rfl, rfl, rfl⟩

theorem F_eqKindS (l : List Knd) (hl : l.length ≤ 1048576) : Fun E0 72 [.one (roK l), .one (roK l)] [] (.v (vB true)) [] [] := by
  refine Fun_of_xc k72 rfl rfl (fun k q h => by cases h) ?_
  ((conv=>whnf);repeat((first|refine Ct ‹_› ?_|refine Cf ‹_› ?_|refine Ct rfl ?_|refine Cf rfl ?_|refine Bi rfl ?_|refine Bz rfl ?_|refine Lr ?_);conv=>whnf))
  refine Cnd_f (by simp) ?_
  ((conv=>whnf);repeat((first|refine Ct ‹_› ?_|refine Cf ‹_› ?_|refine Ct rfl ?_|refine Cf rfl ?_|refine Bi rfl ?_|refine Bz rfl ?_|refine Lr ?_);conv=>whnf))
  refine WLoop_v ⟨[0, 1, 5], [], []⟩ (fun i : Int => hdS 27 [(0, .v (.one (roK l))), (1, .v (.one (roK l))), (5, .v (vI i))] [] [])
    (fun k i => 0 ≤ i ∧ i + k = l.length) l.length 0 rfl ⟨by omega, by omega⟩ ?_
  rintro k i ⟨h1, h2⟩
  ((conv=>whnf);repeat((first|refine Ct ‹_› ?_|refine Cf ‹_› ?_|refine Ct rfl ?_|refine Cf rfl ?_|refine Bi rfl ?_|refine Bz rfl ?_|refine Lr ?_);conv=>whnf))
  refine Cnd_i (fun h => ?_) (fun h => ?_)
  · have hi' : i < l.length := of_decide_eq_true h
    ((conv=>whnf);repeat((first|refine Ct ‹_› ?_|refine Cf ‹_› ?_|refine Ct rfl ?_|refine Cf rfl ?_|refine Bi rfl ?_|refine Bz rfl ?_|refine Lr ?_);conv=>whnf))
    refine Bnd_i ⟨h1, hi'⟩ ?_
    ((conv=>whnf);repeat((first|refine Ct ‹_› ?_|refine Cf ‹_› ?_|refine Ct rfl ?_|refine Cf rfl ?_|refine Bi rfl ?_|refine Bz rfl ?_|refine Lr ?_);conv=>whnf))
    refine Bnd_i ⟨h1, hi'⟩ ?_
    ((conv=>whnf);repeat((first|refine Ct ‹_› ?_|refine Cf ‹_› ?_|refine Ct rfl ?_|refine Cf rfl ?_|refine Bi rfl ?_|refine Bz rfl ?_|refine Lr ?_);conv=>whnf))
    refine CallQ_some (F_eqKind (l.getD i.toNat Knd.d)) rfl rfl ?_
    ((conv=>whnf);repeat((first|refine Ct ‹_› ?_|refine Cf ‹_› ?_|refine Ct rfl ?_|refine Cf rfl ?_|refine Bi rfl ?_|refine Bz rfl ?_|refine Lr ?_);conv=>whnf))
    refine ⟨k - 1, i + 1, ?_, ?_, ?_, ?_⟩
    · rw [wrapI (by omega)]; rfl
    · omega
    · omega
    · omega
  · ((conv=>whnf);repeat((first|refine Ct ‹_› ?_|refine Cf ‹_› ?_|refine Ct rfl ?_|refine Cf rfl ?_|refine Bi rfl ?_|refine Bz rfl ?_|refine Lr ?_);conv=>whnf))
    exact ⟨rfl, rfl, rfl⟩

theorem F_eqRules (r : Rul) (h : r.Sm) : Fun E0 34 [.agg r.cs, .agg r.cs] [] (.v (vB true)) [] [] := by
  refine Fun_of_xc k34 rfl rfl (fun k q h => by cases h) ?_
  ((conv=>whnf);repeat((first|refine Ct ‹_› ?_|refine Cf ‹_› ?_|refine Ct rfl ?_|refine Cf rfl ?_|refine Bi rfl ?_|refine Bz rfl ?_|refine Lr ?_);conv=>whnf))
  refine CallQ_some (F_eqTerrainS r.ter h.ter h.cost) rfl rfl ?_
  ((conv=>whnf);repeat((first|refine Ct ‹_› ?_|refine Cf ‹_› ?_|refine Ct rfl ?_|refine Cf rfl ?_|refine Bi rfl ?_|refine Bz rfl ?_|refine Lr ?_);conv=>whnf))
  refine CallQ_some (F_eqKindS r.knd h.knd) rfl rfl ?_
  ((conv=>whnf);repeat((first|refine Ct ‹_› ?_|refine Cf ‹_› ?_|refine Ct rfl ?_|refine Cf rfl ?_|refine Bi rfl ?_|refine Bz rfl ?_|refine Lr ?_);conv=>whnf))
  refine Cnd_f (by simp) ?_
  ((conv=>whnf);repeat((first|refine Ct ‹_› ?_|refine Cf ‹_› ?_|refine Ct rfl ?_|refine Cf rfl ?_|refine Bi rfl ?_|refine Bz rfl ?_|refine Lr ?_);conv=>whnf))
  refine Cnd_f (by simp) ?_
  ((conv=>whnf);repeat((first|refine Ct ‹_› ?_|refine Cf ‹_› ?_|refine Ct rfl ?_|refine Cf rfl ?_|refine Bi rfl ?_|refine Bz rfl ?_|refine Lr ?_);conv=>whnf))
  refine Cnd_f (by simp) ?_
  ((conv=>whnf);repeat((first|refine Ct ‹_› ?_|refine Cf ‹_› ?_|refine Ct rfl ?_|refine Cf rfl ?_|refine Bi rfl ?_|refine Bz rfl ?_|refine Lr ?_);conv=>whnf))
  refine Cnd_f (by simp) ?_
  ((conv=>whnf);repeat((first|refine Ct ‹_› ?_|refine Cf ‹_› ?_|refine Ct rfl ?_|refine Cf rfl ?_|refine Bi rfl ?_|refine Bz rfl ?_|refine Lr ?_);conv=>whnf))
  refine Cnd_f (by simp) ?_
  ((conv=>whnf);repeat((first|refine Ct ‹_› ?_|refine Cf ‹_› ?_|refine Ct rfl ?_|refine Cf rfl ?_|refine Bi rfl ?_|refine Bz rfl ?_|refine Lr ?_);conv=>whnf))
  exact ⟨rfl, rfl, rfl⟩

theorem F_eqMap (m : Map) (h : m.Sm) : Fun E0 35 [.agg m.cs, .agg m.cs] [] (.v (vB true)) [] [] := by
  refine Fun_of_xc k35 rfl rfl (fun k q h => by cases h) ?_
  ((conv=>whnf);repeat((first|refine Ct ‹_› ?_|refine Cf ‹_› ?_|refine Ct rfl ?_|refine Cf rfl ?_|refine Bi rfl ?_|refine Bz rfl ?_|refine Lr ?_);conv=>whnf))
  refine Cnd_f (by simp) ?_
  ((conv=>whnf);repeat((first|refine Ct ‹_› ?_|refine Cf ‹_› ?_|refine Ct rfl ?_|refine Cf rfl ?_|refine Bi rfl ?_|refine Bz rfl ?_|refine Lr ?_);conv=>whnf))
  refine Cnd_f (by simp) ?_
  ((conv=>whnf);repeat((first|refine Ct ‹_› ?_|refine Cf ‹_› ?_|refine Ct rfl ?_|refine Cf rfl ?_|refine Bi rfl ?_|refine Bz rfl ?_|refine Lr ?_);conv=>whnf))
  refine CallQ_some (F_eqIntS m.ter h.ter) rfl rfl ?_
  ((conv=>whnf);repeat((first|refine Ct ‹_› ?_|refine Cf ‹_› ?_|refine Ct rfl ?_|refine Cf rfl ?_|refine Bi rfl ?_|refine Bz rfl ?_|refine Lr ?_);conv=>whnf))
  refine CallQ_some (F_eqIntS m.riv h.riv) rfl rfl ?_
  ((conv=>whnf);repeat((first|refine Ct ‹_› ?_|refine Cf ‹_› ?_|refine Ct rfl ?_|refine Cf rfl ?_|refine Bi rfl ?_|refine Bz rfl ?_|refine Lr ?_);conv=>whnf))
  refine CallQ_some (F_eqIntS m.roa h.roa) rfl rfl ?_
  ((conv=>whnf);repeat((first|refine Ct ‹_› ?_|refine Cf ‹_› ?_|refine Ct rfl ?_|refine Cf rfl ?_|refine Bi rfl ?_|refine Bz rfl ?_|refine Lr ?_);conv=>whnf))
  exact ⟨rfl, rfl, rfl⟩

theorem F_eqBoard (b : Brd) (h : b.Sm) : Fun E0 12 [.agg b.cs, .agg b.cs] [] (.v (vB true)) [] [] := by
  refine Fun_of_xc k12 rfl rfl (fun k q h => by cases h) ?_
  ((conv=>whnf);repeat((first|refine Ct ‹_› ?_|refine Cf ‹_› ?_|refine Ct rfl ?_|refine Cf rfl ?_|refine Bi rfl ?_|refine Bz rfl ?_|refine Lr ?_);conv=>whnf))
  refine CallQ_some (F_eqRules b.r h.r) rfl rfl ?_
  ((conv=>whnf);repeat((first|refine Ct ‹_› ?_|refine Cf ‹_› ?_|refine Ct rfl ?_|refine Cf rfl ?_|refine Bi rfl ?_|refine Bz rfl ?_|refine Lr ?_);conv=>whnf))
  refine CallQ_some (F_eqMap b.m h.m) rfl rfl ?_
  ((conv=>whnf);repeat((first|refine Ct ‹_› ?_|refine Cf ‹_› ?_|refine Ct rfl ?_|refine Cf rfl ?_|refine Bi rfl ?_|refine Bz rfl ?_|refine Lr ?_);conv=>whnf))
  exact ⟨rfl, rfl, rfl⟩

theorem CallQ_eq {E : Env} {f : Nat} {av av' : List V} {hot : Bool} {d : Option Nat} {ob : Ob} {K : T → Ob → Prop} (e : av = av') (h : CallQ E f av' hot d ob K) : CallQ E f av hot d ob K := e ▸ h

theorem nth_map {g : Cell → Cell} (hg : g .u = .u) : ∀ (l : List Cell) (j : Nat), g (nth l j) = nth (l.map g) j
  | [], _ => hg
  | _ :: _, 0 => rfl
  | _ :: l, j + 1 => nth_map hg l j

theorem toRo_nth (l : List Cell) (j : Nat) : toRo (nth l j) = nth (l.map toRo) j := nth_map rfl l j

theorem snapT (l : List Ter) : Cell.ro 5 l.length (fun i j => toRo (nth (l.getD i Ter.d).cw j)) = roT l := by
  unfold roT
  congr 1
  funext i j
  rw [toRo_nth]; rfl

theorem snapK (l : List Knd) : Cell.ro 6 l.length (fun i j => toRo (nth (l.getD i Knd.d).cs j)) = roK l := by
  unfold roK
  congr 1
  funext i j
  rw [toRo_nth]; rfl

theorem snapBB (b : Brd) :
    [V.agg [.ro 5 b.r.ter.length fun i j => toRo (nth (b.r.ter.getD i Ter.d).cw j), .ro 6 b.r.knd.length fun i j => toRo (nth (b.r.knd.getD i Knd.d).cs j), cI b.r.stack, cI b.r.river, cI b.r.road, cI b.r.supply, cI b.r.turns,
      cI b.m.w, cI b.m.h, roI b.m.ter, roI b.m.riv, roI b.m.roa],
     V.agg [.ro 5 b.r.ter.length fun i j => toRo (nth (b.r.ter.getD i Ter.d).cw j), .ro 6 b.r.knd.length fun i j => toRo (nth (b.r.knd.getD i Knd.d).cs j), cI b.r.stack, cI b.r.river, cI b.r.road, cI b.r.supply, cI b.r.turns,
      cI b.m.w, cI b.m.h, roI b.m.ter, roI b.m.riv, roI b.m.roa]] = [V.agg b.cs, V.agg b.cs] := by rw [snapT, snapK]

theorem sub1_sm {left n : Int} (h : ¬ sub1 left n < 0) : n ≤ left ∧ sub1 left n = left - n := by
  unfold sub1 at h ⊢
  by_cases g : left - n < 0
  · rw [if_pos g] at h; omega
  · rw [if_neg g]; omega

theorem szL_sm {α : Type} {f : α → Int → Int} {p : α → Prop} (hf : ∀ a x, 0 ≤ x → x ≤ 1048576 → ¬ f a x < 0 → p a ∧ f a x ≤ 1048576) : ∀ (l : List α) (x : Int), 0 ≤ x → x ≤ 1048576 → ¬ szL f l x < 0 → ∀ a ∈ l, p a
  | [], _, _, _, _, _, h => by cases h
  | a :: l, x, h0, h1, h, b, hb => by
    unfold szL at h
    by_cases g : f a x < 0
    · rw [if_pos g] at h; omega
    · rw [if_neg g] at h
      obtain ⟨c1, c2⟩ := hf a x h0 h1 g
      rcases List.mem_cons.1 hb with rfl | hb
      · exact c1
      · exact szL_sm hf l _ (by omega) c2 h b hb

theorem szS_sm {α : Type} {f : α → Int → Int} {p : α → Prop} (hf : ∀ a x, 0 ≤ x → x ≤ 1048576 → ¬ f a x < 0 → p a ∧ f a x ≤ 1048576) (l : List α) (x : Int) (h0 : 0 ≤ x) (h1 : x ≤ 1048576) (h : ¬ szS f l x < 0) : l.length ≤ 1048576 ∧ ∀ a ∈ l, p a := by
  unfold szS at h
  by_cases g : x - l.length < 0
  · rw [if_pos g] at h; omega
  · rw [if_neg g] at h
    exact ⟨by omega, szL_sm hf l _ (by omega) (by omega) h⟩

theorem szT_sm {t : Ter} {x : Int} (h0 : 0 ≤ x) (h1 : x ≤ 1048576) (h : ¬ szT t x < 0) : t.cost.length ≤ 1048576 ∧ szT t x ≤ 1048576 := by
  refine ⟨?_, (szT_b h0 h1).1⟩
  unfold szT at h
  by_cases g : x - t.name.size < 0
  · rw [if_pos g] at h; omega
  · rw [if_neg g] at h
    have := (sub1_sm h).1
    omega

theorem szB_sm {b : Brd} {x : Int} (h0 : 0 ≤ x) (h1 : x ≤ 1048576) (h : ¬ szB b x < 0) : b.Sm ∧ szB b x ≤ 1048576 := by
  unfold szB at h ⊢
  by_cases g : szR b.r x < 0
  · rw [if_pos g] at h; omega
  rw [if_neg g] at h ⊢
  by_cases g2 : szM b.m (szR b.r x) < 0
  · rw [if_pos g2] at h; omega
  rw [if_neg g2]
  clear h
  have gb := szR_b (r := b.r) h0 h1
  unfold szR at g
  by_cases e1 : szS szT b.r.ter x < 0
  · rw [if_pos e1] at g; omega
  rw [if_neg e1] at g
  by_cases e2 : szS szK b.r.knd (szS szT b.r.ter x) < 0
  · rw [if_pos e2] at g; omega
  have b1 := szS_b (f := szT) (fun t x a b => (szT_b a b).1) b.r.ter h0 h1
  have k1 := szS_sm (p := fun t : Ter => t.cost.length ≤ 1048576) (fun a x h0 h1 h => szT_sm h0 h1 h) b.r.ter x h0 h1 e1
  have k2 := szS_sm (f := szK) (p := fun _ => True) (fun a x h0 h1 h => ⟨trivial, (szK_b h0 h1).1⟩) b.r.knd _ (by omega) b1 e2
  unfold szM at g2 ⊢
  generalize szR b.r x = y at *
  by_cases e3 : sub1 y b.m.ter.length < 0
  · rw [if_pos e3] at g2; omega
  rw [if_neg e3] at g2 ⊢
  by_cases e4 : sub1 (sub1 y b.m.ter.length) b.m.riv.length < 0
  · rw [if_pos e4] at g2; omega
  rw [if_neg e4] at g2 ⊢
  have m1 := sub1_sm e3
  have m2 := sub1_sm e4
  have m3 := sub1_sm g2
  exact ⟨⟨⟨k1.1, k1.2, k2.1⟩, ⟨by omega, by omega, by omega⟩⟩, by omega⟩

/-- a board that is as it should be, with a hex of that number -/
def okPl (b : Brd) (i : Int) : Bool := okBrd b && In i 0 (b.m.w * b.m.h - 1)

structure PlOk (b : Brd) (i : Int) : Prop where
  gb : GB b
  i0 : 0 ≤ i
  i1 : i < b.m.ter.length

theorem PlOk.of {b : Brd} (ho : b.Ok) {i : Int} (h : okPl b i = true) : PlOk b i := by
  simp only [okPl, Bool.and_eq_true] at h
  have g := GB.of ho h.1
  have a := of_decide_eq_true h.2
  have := g.n
  exact ⟨g, by omega, by omega⟩

/-- a row of numbers to which one is appended -/
theorem rwI_app (l : List Int) (x : Int) (g : Nat → Nat → Cell) (h : g 0 0 = cI x) : RowEq (appRow (rwI l) 1 g) (rwI (l ++ [x])) := by
  refine ⟨rfl, rfl, by simp [appRow], fun i j hi hj => ?_⟩
  have hj : j < 1 := hj
  obtain rfl : j = 0 := by omega
  have hi : i < l.length + 1 := hi
  show (bif Nat.blt i l.length then cI (l.getD i 0) else g (i - l.length) 0) = cI ((l ++ [x]).getD i 0)
  by_cases e : i < l.length
  · have : Nat.blt i l.length = true := by simpa [Nat.blt_eq] using e
    rw [this]
    simp [List.getElem?_append, e]
  · have : Nat.blt i l.length = false := by
      rw [Bool.eq_false_iff]; intro h; exact e (by simpa [Nat.blt_eq] using h)
    rw [this, show i = l.length by omega]
    simp [h]

theorem rwI_nil (g : Nat → Nat → Cell) : RowEq ⟨false, 1, 0, g⟩ (rwI []) := ⟨rfl, rfl, rfl, fun i j hi _ => by simp at hi⟩

theorem F_szUnitS (l : List Unt) (hl : l.length ≤ maxLen) (left : Int) (h0 : 0 ≤ left) (h1 : left ≤ 1048576) : Fun E0 26 [.one (roU l), vI left] [] (.v (vI (sub1 left l.length))) [] [] := by
  have hl : l.length ≤ 9223372036854775807 := hl
  refine Fun_of_xc k26 rfl rfl (fun k q h => by cases h) ?_
  ((conv=>whnf);repeat((first|refine Ct ‹_› ?_|refine Cf ‹_› ?_|refine Ct rfl ?_|refine Cf rfl ?_|refine Bi rfl ?_|refine Bz rfl ?_|refine Lr ?_);conv=>whnf))
  rw [wrapI (by omega)]
  refine Cnd_i (fun g => ?_) (fun g => ?_)
  · have g := of_decide_eq_true g
    ((conv=>whnf);repeat((first|refine Ct ‹_› ?_|refine Cf ‹_› ?_|refine Ct rfl ?_|refine Cf rfl ?_|refine Bi rfl ?_|refine Bz rfl ?_|refine Lr ?_);conv=>whnf))
    rw [sub1, if_pos g]
    exact ⟨rfl, rfl, rfl⟩
  · have g := of_decide_eq_false g
    ((conv=>whnf);repeat((first|refine Ct ‹_› ?_|refine Cf ‹_› ?_|refine Ct rfl ?_|refine Cf rfl ?_|refine Bi rfl ?_|refine Bz rfl ?_|refine Lr ?_);conv=>whnf))
    rw [sub1, if_neg g]
    exact ⟨rfl, rfl, rfl⟩

def szSt (s : Stt) (left : Int) : Int := sub1 left s.un.length

structure Stt.Sm (s : Stt) : Prop where
  un : s.un.length ≤ 1048576

theorem szSt_sm {s : Stt} {x : Int} (h0 : 0 ≤ x) (h1 : x ≤ 1048576) (h : ¬ szSt s x < 0) : s.Sm ∧ szSt s x ≤ 1048576 := by
  have := sub1_sm h
  have e : szSt s x = sub1 x s.un.length := rfl
  exact ⟨⟨by omega⟩, by omega⟩

theorem F_szState (s : Stt) (hs : s.Ok) (left : Int) (h0 : 0 ≤ left) (h1 : left ≤ 1048576) : Fun E0 7 [.agg s.cs, vI left] [] (.v (vI (szSt s left))) [] [] := by
  refine Fun_of_xc k7 rfl rfl (fun k q h => by cases h) ?_
  ((conv=>whnf);repeat((first|refine Ct ‹_› ?_|refine Cf ‹_› ?_|refine Ct rfl ?_|refine Cf rfl ?_|refine Bi rfl ?_|refine Bz rfl ?_|refine Lr ?_);conv=>whnf))
  (refine CallQ_some (F_szUnitS s.un hs.lun left h0 h1) ?_ ?_ ?_; rfl; rfl); ((conv=>whnf);repeat((first|refine Ct ‹_› ?_|refine Cf ‹_› ?_|refine Ct rfl ?_|refine Cf rfl ?_|refine Bi rfl ?_|refine Bz rfl ?_|refine Lr ?_);conv=>whnf))
  refine Cnd_i (fun g => ?_) (fun g => ?_)
  · have g := of_decide_eq_true g
    have e : szSt s left = -1 := by
      unfold szSt sub1
      unfold sub1 at g
      by_cases h : left - s.un.length < 0
      · rw [if_pos h]
      · rw [if_neg h] at g; omega
    ((conv=>whnf);repeat((first|refine Ct ‹_› ?_|refine Cf ‹_› ?_|refine Ct rfl ?_|refine Cf rfl ?_|refine Bi rfl ?_|refine Bz rfl ?_|refine Lr ?_);conv=>whnf))
    rw [e]
    exact ⟨rfl, rfl, rfl⟩
  · ((conv=>whnf);repeat((first|refine Ct ‹_› ?_|refine Cf ‹_› ?_|refine Ct rfl ?_|refine Cf rfl ?_|refine Bi rfl ?_|refine Bz rfl ?_|refine Lr ?_);conv=>whnf))
    exact ⟨rfl, rfl, rfl⟩

theorem F_toUnit (u : Unt) : Fun E0 65 [.agg u.cs] [] (.v (.agg u.cs)) [] [] := by
  refine Fun_of_xc k65 rfl rfl (fun k q h => by cases h) ?_
  ((conv=>whnf);repeat((first|refine Ct ‹_› ?_|refine Cf ‹_› ?_|refine Ct rfl ?_|refine Cf rfl ?_|refine Bi rfl ?_|refine Bz rfl ?_|refine Lr ?_);conv=>whnf))
  exact ⟨rfl, rfl, rfl⟩

abbrev Unt.cz : List Cell := [cI 0, cI 0, cI 0, cI 0]

abbrev rwU (l : List Unt) : Row := ⟨false, 4, l.length, fun i j => nth (l.getD i Unt.d).cs j⟩

abbrev rwUu (l : List Unt) (k : Int) : Row := ⟨false, 4, l.length, fun i j => if (i : Int) < k ∨ l.length ≤ i then nth (l.getD i Unt.d).cs j else nth Unt.cz j⟩

abbrev rwUn (n : Nat) (l : List Unt) : Row := ⟨false, 4, n, fun i j => nth (l.getD i Unt.d).cs j⟩

theorem rwUn_no (n : Nat) (l : List Unt) : NoRo (rwUn n l) := by
  intro i j _ hj
  have hj : j < 4 := hj
  match j, hj with
  | 0, _ => rfl
  | 1, _ => rfl
  | 2, _ => rfl
  | 3, _ => rfl

theorem rwU_no (l : List Unt) : NoRo (rwU l) := rwUn_no l.length l

theorem F_toUnitS (l : List Unt) (hl : l.length ≤ 1048576) : Fun E0 31 [.one (roU l)] [] (.v (.one (.own 0 l.length))) [(0, rwU l)] [] := by
  refine Fun_of_xc k31 rfl rfl (nrC (rwU_no _) nrN) ?_
  ((conv=>whnf);repeat((first|refine Ct ‹_› ?_|refine Cf ‹_› ?_|refine Ct rfl ?_|refine Cf rfl ?_|refine Bi rfl ?_|refine Bz rfl ?_|refine Lr ?_);conv=>whnf))
  refine Rw_self ?_
  ((conv=>whnf);repeat((first|refine Ct ‹_› ?_|refine Cf ‹_› ?_|refine Ct rfl ?_|refine Cf rfl ?_|refine Bi rfl ?_|refine Bz rfl ?_|refine Lr ?_);conv=>whnf))
  refine Bnd_i (by omega) ?_
  ((conv=>whnf);repeat((first|refine Ct ‹_› ?_|refine Cf ‹_› ?_|refine Ct rfl ?_|refine Cf rfl ?_|refine Bi rfl ?_|refine Bz rfl ?_|refine Lr ?_);conv=>whnf))
  refine Rw_i (rwUu l 0) ⟨rfl, rfl, by simp [zeroRow], fun i j hi hj => ?_⟩ ?_
  · have hi : i < l.length := by simpa [zeroRow] using hi
    show nth Unt.cz j = if (i : Int) < 0 ∨ l.length ≤ i then nth (l.getD i Unt.d).cs j else nth Unt.cz j
    rw [if_neg (by omega)]
  ((conv=>whnf);repeat((first|refine Ct ‹_› ?_|refine Cf ‹_› ?_|refine Ct rfl ?_|refine Cf rfl ?_|refine Bi rfl ?_|refine Bz rfl ?_|refine Lr ?_);conv=>whnf))
  refine WLoop_v ⟨[0, 3, 4], [], []⟩ (fun i : Int => hdS 23 [(0, .v (.one (roU l))), (3, .v (.one (.own (vkey 3) l.length))), (4, .v (vI i))] [] [(vkey 3, rwUu l i)])
    (fun k i => 0 ≤ i ∧ i + k = l.length) l.length 0 rfl ⟨by omega, by omega⟩ ?_
  rintro k i ⟨h1, h2⟩
  ((conv=>whnf);repeat((first|refine Ct ‹_› ?_|refine Cf ‹_› ?_|refine Ct rfl ?_|refine Cf rfl ?_|refine Bi rfl ?_|refine Bz rfl ?_|refine Lr ?_);conv=>whnf))
  refine Cnd_i (fun h => ?_) (fun h => ?_)
  · have hi' : i < l.length := of_decide_eq_true h
    ((conv=>whnf);repeat((first|refine Ct ‹_› ?_|refine Cf ‹_› ?_|refine Ct rfl ?_|refine Cf rfl ?_|refine Bi rfl ?_|refine Bz rfl ?_|refine Lr ?_);conv=>whnf))
    refine Bnd_i (⟨h1, hi'⟩) ?_; ((conv=>whnf);repeat((first|refine Ct ‹_› ?_|refine Cf ‹_› ?_|refine Ct rfl ?_|refine Cf rfl ?_|refine Bi rfl ?_|refine Bz rfl ?_|refine Lr ?_);conv=>whnf))
    (refine CallQ_some (F_toUnit (l.getD i.toNat Unt.d)) ?_ ?_ ?_; rfl; rfl); ((conv=>whnf);repeat((first|refine Ct ‹_› ?_|refine Cf ‹_› ?_|refine Ct rfl ?_|refine Cf rfl ?_|refine Bi rfl ?_|refine Bz rfl ?_|refine Lr ?_);conv=>whnf))
    refine Bnd_i (⟨h1, hi'⟩) ?_; ((conv=>whnf);repeat((first|refine Ct ‹_› ?_|refine Cf ‹_› ?_|refine Ct rfl ?_|refine Cf rfl ?_|refine Bi rfl ?_|refine Bz rfl ?_|refine Lr ?_);conv=>whnf))
    refine Rw_i (rwUu l (i + 1)) ⟨rfl, rfl, rfl, fun i' j hi hj => ?_⟩ ?_
    · have hj : j < 4 := hj
      have hi : i' < l.length := hi
      show wrG (rwUu l i).get i.toNat 0 (l.getD i.toNat Unt.d).cs i' j = if (i' : Int) < i + 1 ∨ l.length ≤ i' then nth (l.getD i' Unt.d).cs j else nth Unt.cz j
      by_cases e : i' = i.toNat
      · subst e
        rw [wrG_in (by simp; omega), if_pos (by omega)]; rfl
      · rw [wrG_out (fun hh => e hh.1)]
        show (if (i' : Int) < i ∨ l.length ≤ i' then nth (l.getD i' Unt.d).cs j else nth Unt.cz j) = _
        by_cases e2 : (i' : Int) < i
        · rw [if_pos (.inl e2), if_pos (.inl (by omega))]
        · rw [if_neg (by omega), if_neg (by omega)]
    ((conv=>whnf);repeat((first|refine Ct ‹_› ?_|refine Cf ‹_› ?_|refine Ct rfl ?_|refine Cf rfl ?_|refine Bi rfl ?_|refine Bz rfl ?_|refine Lr ?_);conv=>whnf))
    refine ⟨k - 1, i + 1, ?_, ?_, ?_, ?_⟩
    · rw [wrapI (by omega)]; rfl
    · omega
    · omega
    · omega
  · have hi' := of_decide_eq_false h
    ((conv=>whnf);repeat((first|refine Ct ‹_› ?_|refine Cf ‹_› ?_|refine Ct rfl ?_|refine Cf rfl ?_|refine Bi rfl ?_|refine Bz rfl ?_|refine Lr ?_);conv=>whnf))
    have e : rwUu l i = rwU l := by
      unfold rwUu rwU
      congr 1
      funext i' j
      rw [if_pos (by omega)]
    rw [e]
    exact ⟨rfl, rfl, rfl⟩

theorem F_toState (s : Stt) (h : s.Sm) : Fun E0 10 [.agg s.cs] [] (.v (.agg [cI s.turn, cI s.wea, .own 2 s.un.length])) [(2, rwU s.un)] [] := by
  refine Fun_of_xc k10 rfl rfl (nrC (rwU_no _) nrN) ?_
  ((conv=>whnf);repeat((first|refine Ct ‹_› ?_|refine Cf ‹_› ?_|refine Ct rfl ?_|refine Cf rfl ?_|refine Bi rfl ?_|refine Bz rfl ?_|refine Lr ?_);conv=>whnf))
  (refine CallQ_some (F_toUnitS s.un h.un) ?_ ?_ ?_; rfl; rfl); ((conv=>whnf);repeat((first|refine Ct ‹_› ?_|refine Cf ‹_› ?_|refine Ct rfl ?_|refine Cf rfl ?_|refine Bi rfl ?_|refine Bz rfl ?_|refine Lr ?_);conv=>whnf))
  exact ⟨rfl, rfl, rfl⟩

theorem F_eqUnit (u : Unt) : Fun E0 73 [.agg u.cs, .agg u.cs] [] (.v (vB true)) [] [] := by
  refine Fun_of_xc k73 rfl rfl (fun k q h => by cases h) ?_
  ((conv=>whnf);repeat((first|refine Ct ‹_› ?_|refine Cf ‹_› ?_|refine Ct rfl ?_|refine Cf rfl ?_|refine Bi rfl ?_|refine Bz rfl ?_|refine Lr ?_);conv=>whnf))
  repeat (refine Cnd_f (by simp) ?_; ((conv=>whnf);repeat((first|refine Ct ‹_› ?_|refine Cf ‹_› ?_|refine Ct rfl ?_|refine Cf rfl ?_|refine Bi rfl ?_|refine Bz rfl ?_|refine Lr ?_);conv=>whnf)))
  exact ⟨rfl, rfl, rfl⟩

theorem F_eqUnitS (l : List Unt) (hl : l.length ≤ 1048576) : Fun E0 36 [.one (roU l), .one (roU l)] [] (.v (vB true)) [] [] := by
  refine Fun_of_xc k36 rfl rfl (fun k q h => by cases h) ?_
  ((conv=>whnf);repeat((first|refine Ct ‹_› ?_|refine Cf ‹_› ?_|refine Ct rfl ?_|refine Cf rfl ?_|refine Bi rfl ?_|refine Bz rfl ?_|refine Lr ?_);conv=>whnf))
  refine Cnd_f (by simp) ?_; ((conv=>whnf);repeat((first|refine Ct ‹_› ?_|refine Cf ‹_› ?_|refine Ct rfl ?_|refine Cf rfl ?_|refine Bi rfl ?_|refine Bz rfl ?_|refine Lr ?_);conv=>whnf))
  refine WLoop_v ⟨[0, 1, 5], [], []⟩ (fun i : Int => hdS 27 [(0, .v (.one (roU l))), (1, .v (.one (roU l))), (5, .v (vI i))] [] [])
    (fun k i => 0 ≤ i ∧ i + k = l.length) l.length 0 rfl ⟨by omega, by omega⟩ ?_
  rintro k i ⟨h1, h2⟩
  ((conv=>whnf);repeat((first|refine Ct ‹_› ?_|refine Cf ‹_› ?_|refine Ct rfl ?_|refine Cf rfl ?_|refine Bi rfl ?_|refine Bz rfl ?_|refine Lr ?_);conv=>whnf))
  refine Cnd_i (fun h => ?_) (fun h => ?_)
  · have hi' : i < l.length := of_decide_eq_true h
    ((conv=>whnf);repeat((first|refine Ct ‹_› ?_|refine Cf ‹_› ?_|refine Ct rfl ?_|refine Cf rfl ?_|refine Bi rfl ?_|refine Bz rfl ?_|refine Lr ?_);conv=>whnf))
    refine Bnd_i (⟨h1, hi'⟩) ?_; ((conv=>whnf);repeat((first|refine Ct ‹_› ?_|refine Cf ‹_› ?_|refine Ct rfl ?_|refine Cf rfl ?_|refine Bi rfl ?_|refine Bz rfl ?_|refine Lr ?_);conv=>whnf))
    refine Bnd_i (⟨h1, hi'⟩) ?_; ((conv=>whnf);repeat((first|refine Ct ‹_› ?_|refine Cf ‹_› ?_|refine Ct rfl ?_|refine Cf rfl ?_|refine Bi rfl ?_|refine Bz rfl ?_|refine Lr ?_);conv=>whnf))
    (refine CallQ_some (F_eqUnit (l.getD i.toNat Unt.d)) ?_ ?_ ?_; rfl; rfl); ((conv=>whnf);repeat((first|refine Ct ‹_› ?_|refine Cf ‹_› ?_|refine Ct rfl ?_|refine Cf rfl ?_|refine Bi rfl ?_|refine Bz rfl ?_|refine Lr ?_);conv=>whnf))
    refine ⟨k - 1, i + 1, ?_, ?_, ?_, ?_⟩
    · rw [wrapI (by omega)]; rfl
    · omega
    · omega
    · omega
  · ((conv=>whnf);repeat((first|refine Ct ‹_› ?_|refine Cf ‹_› ?_|refine Ct rfl ?_|refine Cf rfl ?_|refine Bi rfl ?_|refine Bz rfl ?_|refine Lr ?_);conv=>whnf))
    exact ⟨rfl, rfl, rfl⟩

theorem F_eqState (s : Stt) (h : s.Sm) : Fun E0 13 [.agg s.cs, .agg s.cs] [] (.v (vB true)) [] [] := by
  refine Fun_of_xc k13 rfl rfl (fun k q h => by cases h) ?_
  ((conv=>whnf);repeat((first|refine Ct ‹_› ?_|refine Cf ‹_› ?_|refine Ct rfl ?_|refine Cf rfl ?_|refine Bi rfl ?_|refine Bz rfl ?_|refine Lr ?_);conv=>whnf))
  repeat (refine Cnd_f (by simp) ?_; ((conv=>whnf);repeat((first|refine Ct ‹_› ?_|refine Cf ‹_› ?_|refine Ct rfl ?_|refine Cf rfl ?_|refine Bi rfl ?_|refine Bz rfl ?_|refine Lr ?_);conv=>whnf)))
  (refine CallQ_some (F_eqUnitS s.un h.un) ?_ ?_ ?_; rfl; rfl); ((conv=>whnf);repeat((first|refine Ct ‹_› ?_|refine Cf ‹_› ?_|refine Ct rfl ?_|refine Cf rfl ?_|refine Bi rfl ?_|refine Bz rfl ?_|refine Lr ?_);conv=>whnf))
  exact ⟨rfl, rfl, rfl⟩

theorem snapU (l : List Unt) : Cell.ro 4 l.length (fun i j => toRo (nth (l.getD i Unt.d).cs j)) = roU l := by
  unfold roU
  congr 1
  funext i j
  rw [toRo_nth]; rfl

theorem snapBS (b : Brd) (s : Stt) (L : List V) :
    V.agg [.ro 5 b.r.ter.length fun i j => toRo (nth (b.r.ter.getD i Ter.d).cw j), .ro 6 b.r.knd.length fun i j => toRo (nth (b.r.knd.getD i Knd.d).cs j), cI b.r.stack, cI b.r.river, cI b.r.road, cI b.r.supply, cI b.r.turns,
      cI b.m.w, cI b.m.h, roI b.m.ter, roI b.m.riv, roI b.m.roa] :: V.agg [cI s.turn, cI s.wea, .ro 4 s.un.length (fun i j => toRo (nth (s.un.getD i Unt.d).cs j))] :: L = V.agg b.cs :: V.agg s.cs :: L := by rw [snapT, snapK, snapU]

theorem snapSS (s : Stt) :
    [V.agg [cI s.turn, cI s.wea, .ro 4 s.un.length (fun i j => toRo (nth (s.un.getD i Unt.d).cs j))], V.agg [cI s.turn, cI s.wea, .ro 4 s.un.length (fun i j => toRo (nth (s.un.getD i Unt.d).cs j))]] = [V.agg s.cs, V.agg s.cs] := by rw [snapU]

theorem F_isSide (i : Int) : Fun E0 41 [vI i] [] (.v (vB (In i 0 1))) [] [] := by
  refine Fun_of_xc k41 rfl rfl (fun k q h => by cases h) ?_
  ((conv=>whnf);repeat((first|refine Ct ‹_› ?_|refine Cf ‹_› ?_|refine Ct rfl ?_|refine Cf rfl ?_|refine Bi rfl ?_|refine Bz rfl ?_|refine Lr ?_);conv=>whnf))
  (refine CallQ_some (F_inRange _ _ _) ?_ ?_ ?_; rfl; rfl); ((conv=>whnf);repeat((first|refine Ct ‹_› ?_|refine Cf ‹_› ?_|refine Ct rfl ?_|refine Cf rfl ?_|refine Bi rfl ?_|refine Bz rfl ?_|refine Lr ?_);conv=>whnf))
  exact ⟨rfl, rfl, rfl⟩

def okUnt (b : Brd) (u : Unt) : Bool := In u.side 0 1 && In u.kind 0 (b.r.knd.length - 1) && In u.ste 0 (b.r.knd.getD u.kind.toNat Knd.d).ste &&
  (u.at' == -1 || (decide (u.ste > 0) && In u.at' 0 (b.m.w * b.m.h - 1) && decide (costAt b u.kind u.at' > 0)))

structure UnOk (b : Brd) (u : Unt) : Prop where
  side : u.side = 0 ∨ u.side = 1
  kind : 0 ≤ u.kind ∧ u.kind < b.r.knd.length
  ste : 0 ≤ u.ste ∧ u.ste ≤ (b.r.knd.getD u.kind.toNat Knd.d).ste
  at' : u.at' = -1 ∨ (0 ≤ u.at' ∧ u.at' < b.m.ter.length ∧ 0 < u.ste ∧ 0 < costAt b u.kind u.at')

theorem UnOk.of {b : Brd} (h : GB b) {u : Unt} (hu : okUnt b u = true) : UnOk b u := by
  simp only [okUnt, Bool.and_eq_true, Bool.or_eq_true, beq_iff_eq] at hu
  obtain ⟨⟨⟨h1, h2⟩, h3⟩, h4⟩ := hu
  have a1 := of_decide_eq_true h1
  have a2 := of_decide_eq_true h2
  have a3 := of_decide_eq_true h3
  refine ⟨by omega, by omega, a3, ?_⟩
  rcases h4 with h4 | ⟨⟨h4, h5⟩, h6⟩
  · exact .inl h4
  · have a4 := of_decide_eq_true h4
    have a5 := of_decide_eq_true h5
    have a6 := of_decide_eq_true h6
    have := h.n
    exact .inr ⟨a5.1, by omega, a4, a6⟩

theorem F_sUnit (b : Brd) (h : GB b) (u : Unt) : Fun E0 60 [.agg b.cs, .agg u.cs] [] (.v (vB (okUnt b u))) [] [] := by
  have hk := h.k1
  have hm := h.wh.mul
  have hn := h.n
  refine Fun_of_xc k60 rfl rfl (fun k q h => by cases h) ?_
  ((conv=>whnf);repeat((first|refine Ct ‹_› ?_|refine Cf ‹_› ?_|refine Ct rfl ?_|refine Cf rfl ?_|refine Bi rfl ?_|refine Bz rfl ?_|refine Lr ?_);conv=>whnf))
  (refine CallQ_some (F_l1In _ _ _) ?_ ?_ ?_; rfl; rfl); ((conv=>whnf);repeat((first|refine Ct ‹_› ?_|refine Cf ‹_› ?_|refine Ct rfl ?_|refine Cf rfl ?_|refine Bi rfl ?_|refine Bz rfl ?_|refine Lr ?_);conv=>whnf))
  refine Cnd_i (fun g => ?_) (fun g => ?_)
  · have e1 : In u.side 0 1 = false := by simpa using g
    ((conv=>whnf);repeat((first|refine Ct ‹_› ?_|refine Cf ‹_› ?_|refine Ct rfl ?_|refine Cf rfl ?_|refine Bi rfl ?_|refine Bz rfl ?_|refine Lr ?_);conv=>whnf))
    rw [okUnt, e1]
    exact ⟨rfl, rfl, rfl⟩
  have e1 : In u.side 0 1 = true := by simpa using g
  ((conv=>whnf);repeat((first|refine Ct ‹_› ?_|refine Cf ‹_› ?_|refine Ct rfl ?_|refine Cf rfl ?_|refine Bi rfl ?_|refine Bz rfl ?_|refine Lr ?_);conv=>whnf))
  rw [wrapI (n := (b.r.knd.length : Int) - 1) (by omega)]
  (refine CallQ_some (F_l1In _ _ _) ?_ ?_ ?_; rfl; rfl); ((conv=>whnf);repeat((first|refine Ct ‹_› ?_|refine Cf ‹_› ?_|refine Ct rfl ?_|refine Cf rfl ?_|refine Bi rfl ?_|refine Bz rfl ?_|refine Lr ?_);conv=>whnf))
  refine Cnd_i (fun g2 => ?_) (fun g2 => ?_)
  · have e2 : In u.kind 0 (b.r.knd.length - 1) = false := by simpa using g2
    ((conv=>whnf);repeat((first|refine Ct ‹_› ?_|refine Cf ‹_› ?_|refine Ct rfl ?_|refine Cf rfl ?_|refine Bi rfl ?_|refine Bz rfl ?_|refine Lr ?_);conv=>whnf))
    rw [okUnt, e1, e2]
    exact ⟨rfl, rfl, rfl⟩
  have e2 : In u.kind 0 (b.r.knd.length - 1) = true := by simpa using g2
  have d2 := of_decide_eq_true e2
  ((conv=>whnf);repeat((first|refine Ct ‹_› ?_|refine Cf ‹_› ?_|refine Ct rfl ?_|refine Cf rfl ?_|refine Bi rfl ?_|refine Bz rfl ?_|refine Lr ?_);conv=>whnf))
  refine Bnd_i (⟨d2.1, by omega⟩) ?_; ((conv=>whnf);repeat((first|refine Ct ‹_› ?_|refine Cf ‹_› ?_|refine Ct rfl ?_|refine Cf rfl ?_|refine Bi rfl ?_|refine Bz rfl ?_|refine Lr ?_);conv=>whnf))
  (refine CallQ_some (F_l1In _ _ _) ?_ ?_ ?_; rfl; rfl); ((conv=>whnf);repeat((first|refine Ct ‹_› ?_|refine Cf ‹_› ?_|refine Ct rfl ?_|refine Cf rfl ?_|refine Bi rfl ?_|refine Bz rfl ?_|refine Lr ?_);conv=>whnf))
  refine Cnd_i (fun g3 => ?_) (fun g3 => ?_)
  · have e3 : In u.ste 0 (b.r.knd.getD u.kind.toNat Knd.d).ste = false := by simpa using g3
    ((conv=>whnf);repeat((first|refine Ct ‹_› ?_|refine Cf ‹_› ?_|refine Ct rfl ?_|refine Cf rfl ?_|refine Bi rfl ?_|refine Bz rfl ?_|refine Lr ?_);conv=>whnf))
    rw [okUnt, e1, e2, e3]
    exact ⟨rfl, rfl, rfl⟩
  have e3 : In u.ste 0 (b.r.knd.getD u.kind.toNat Knd.d).ste = true := by simpa using g3
  ((conv=>whnf);repeat((first|refine Ct ‹_› ?_|refine Cf ‹_› ?_|refine Ct rfl ?_|refine Cf rfl ?_|refine Bi rfl ?_|refine Bz rfl ?_|refine Lr ?_);conv=>whnf))
  refine Cnd_i (fun e4 => ?_) (fun e4 => ?_)
  · ((conv=>whnf);repeat((first|refine Ct ‹_› ?_|refine Cf ‹_› ?_|refine Ct rfl ?_|refine Cf rfl ?_|refine Bi rfl ?_|refine Bz rfl ?_|refine Lr ?_);conv=>whnf))
    rw [okUnt, e1, e2, e3, e4]
    exact ⟨rfl, rfl, rfl⟩
  ((conv=>whnf);repeat((first|refine Ct ‹_› ?_|refine Cf ‹_› ?_|refine Ct rfl ?_|refine Cf rfl ?_|refine Bi rfl ?_|refine Bz rfl ?_|refine Lr ?_);conv=>whnf))
  refine Cnd_i (fun e5 => ?_) (fun e5 => ?_)
  · ((conv=>whnf);repeat((first|refine Ct ‹_› ?_|refine Cf ‹_› ?_|refine Ct rfl ?_|refine Cf rfl ?_|refine Bi rfl ?_|refine Bz rfl ?_|refine Lr ?_);conv=>whnf))
    (refine CallQ_some (F_mSize b.m h.wh) ?_ ?_ ?_; rfl; rfl); ((conv=>whnf);repeat((first|refine Ct ‹_› ?_|refine Cf ‹_› ?_|refine Ct rfl ?_|refine Cf rfl ?_|refine Bi rfl ?_|refine Bz rfl ?_|refine Lr ?_);conv=>whnf))
    rw [wrapI (n := b.m.w * b.m.h - 1) (by omega)]
    (refine CallQ_some (F_l1In _ _ _) ?_ ?_ ?_; rfl; rfl); ((conv=>whnf);repeat((first|refine Ct ‹_› ?_|refine Cf ‹_› ?_|refine Ct rfl ?_|refine Cf rfl ?_|refine Bi rfl ?_|refine Bz rfl ?_|refine Lr ?_);conv=>whnf))
    refine Cnd_i (fun e6 => ?_) (fun e6 => ?_)
    · have d6 := of_decide_eq_true e6
      ((conv=>whnf);repeat((first|refine Ct ‹_› ?_|refine Cf ‹_› ?_|refine Ct rfl ?_|refine Cf rfl ?_|refine Bi rfl ?_|refine Bz rfl ?_|refine Lr ?_);conv=>whnf))
      (refine CallQ_some (F_bCost b h u.kind u.at' d6.1 (by omega) d2.1 (by omega)) ?_ ?_ ?_; rfl; rfl); ((conv=>whnf);repeat((first|refine Ct ‹_› ?_|refine Cf ‹_› ?_|refine Ct rfl ?_|refine Cf rfl ?_|refine Bi rfl ?_|refine Bz rfl ?_|refine Lr ?_);conv=>whnf))
      rw [okUnt, e1, e2, e3, e4, e5, e6]
      exact ⟨rfl, rfl, rfl⟩
    · ((conv=>whnf);repeat((first|refine Ct ‹_› ?_|refine Cf ‹_› ?_|refine Ct rfl ?_|refine Cf rfl ?_|refine Bi rfl ?_|refine Bz rfl ?_|refine Lr ?_);conv=>whnf))
      rw [okUnt, e1, e2, e3, e4, e5, e6]
      exact ⟨rfl, rfl, rfl⟩
  · ((conv=>whnf);repeat((first|refine Ct ‹_› ?_|refine Cf ‹_› ?_|refine Ct rfl ?_|refine Cf rfl ?_|refine Bi rfl ?_|refine Bz rfl ?_|refine Lr ?_);conv=>whnf))
    rw [okUnt, e1, e2, e3, e4, e5]
    exact ⟨rfl, rfl, rfl⟩

theorem ne0_pos {c : Int} (h : 0 ≤ c) : (c != 0) = decide (c > 0) := by
  by_cases e : c > 0
  · rw [decide_eq_true e]; exact bne_iff_ne.2 (by omega)
  · rw [decide_eq_false e, show c = 0 by omega]; rfl

theorem F_goodUnit (b : Brd) (h : GB b) (u : Unt) : Fun E0 102 [.agg b.cs, .agg u.cs] [] (.v (vB (okUnt b u))) [] [] := by
  have hk := h.k1
  have hm := h.wh.mul
  have hn := h.n
  refine Fun_of_xc k102 rfl rfl (fun k q h => by cases h) ?_
  ((conv=>whnf);repeat((first|refine Ct ‹_› ?_|refine Cf ‹_› ?_|refine Ct rfl ?_|refine Cf rfl ?_|refine Bi rfl ?_|refine Bz rfl ?_|refine Lr ?_);conv=>whnf))
  (refine CallQ_some (F_isSide _) ?_ ?_ ?_; rfl; rfl); ((conv=>whnf);repeat((first|refine Ct ‹_› ?_|refine Cf ‹_› ?_|refine Ct rfl ?_|refine Cf rfl ?_|refine Bi rfl ?_|refine Bz rfl ?_|refine Lr ?_);conv=>whnf))
  refine Cnd_i (fun g => ?_) (fun g => ?_)
  · have e1 : In u.side 0 1 = false := by simpa using g
    ((conv=>whnf);repeat((first|refine Ct ‹_› ?_|refine Cf ‹_› ?_|refine Ct rfl ?_|refine Cf rfl ?_|refine Bi rfl ?_|refine Bz rfl ?_|refine Lr ?_);conv=>whnf))
    rw [okUnt, e1]
    exact ⟨rfl, rfl, rfl⟩
  have e1 : In u.side 0 1 = true := by simpa using g
  ((conv=>whnf);repeat((first|refine Ct ‹_› ?_|refine Cf ‹_› ?_|refine Ct rfl ?_|refine Cf rfl ?_|refine Bi rfl ?_|refine Bz rfl ?_|refine Lr ?_);conv=>whnf))
  (refine CallQ_some (F_isIndex _ _ (by unfold i64; omega)) ?_ ?_ ?_; rfl; rfl); ((conv=>whnf);repeat((first|refine Ct ‹_› ?_|refine Cf ‹_› ?_|refine Ct rfl ?_|refine Cf rfl ?_|refine Bi rfl ?_|refine Bz rfl ?_|refine Lr ?_);conv=>whnf))
  refine Cnd_i (fun g2 => ?_) (fun g2 => ?_)
  · have e2 : In u.kind 0 (b.r.knd.length - 1) = false := by simpa using g2
    ((conv=>whnf);repeat((first|refine Ct ‹_› ?_|refine Cf ‹_› ?_|refine Ct rfl ?_|refine Cf rfl ?_|refine Bi rfl ?_|refine Bz rfl ?_|refine Lr ?_);conv=>whnf))
    rw [okUnt, e1, e2]
    exact ⟨rfl, rfl, rfl⟩
  have e2 : In u.kind 0 (b.r.knd.length - 1) = true := by simpa using g2
  have d2 := of_decide_eq_true e2
  ((conv=>whnf);repeat((first|refine Ct ‹_› ?_|refine Cf ‹_› ?_|refine Ct rfl ?_|refine Cf rfl ?_|refine Bi rfl ?_|refine Bz rfl ?_|refine Lr ?_);conv=>whnf))
  refine Bnd_i (⟨d2.1, by omega⟩) ?_; ((conv=>whnf);repeat((first|refine Ct ‹_› ?_|refine Cf ‹_› ?_|refine Ct rfl ?_|refine Cf rfl ?_|refine Bi rfl ?_|refine Bz rfl ?_|refine Lr ?_);conv=>whnf))
  (refine CallQ_some (F_inRange _ _ _) ?_ ?_ ?_; rfl; rfl); ((conv=>whnf);repeat((first|refine Ct ‹_› ?_|refine Cf ‹_› ?_|refine Ct rfl ?_|refine Cf rfl ?_|refine Bi rfl ?_|refine Bz rfl ?_|refine Lr ?_);conv=>whnf))
  refine Cnd_i (fun g3 => ?_) (fun g3 => ?_)
  · have e3 : In u.ste 0 (b.r.knd.getD u.kind.toNat Knd.d).ste = false := by simpa using g3
    ((conv=>whnf);repeat((first|refine Ct ‹_› ?_|refine Cf ‹_› ?_|refine Ct rfl ?_|refine Cf rfl ?_|refine Bi rfl ?_|refine Bz rfl ?_|refine Lr ?_);conv=>whnf))
    rw [okUnt, e1, e2, e3]
    exact ⟨rfl, rfl, rfl⟩
  have e3 : In u.ste 0 (b.r.knd.getD u.kind.toNat Knd.d).ste = true := by simpa using g3
  ((conv=>whnf);repeat((first|refine Ct ‹_› ?_|refine Cf ‹_› ?_|refine Ct rfl ?_|refine Cf rfl ?_|refine Bi rfl ?_|refine Bz rfl ?_|refine Lr ?_);conv=>whnf))
  refine Cnd_i (fun e4 => ?_) (fun e4 => ?_)
  · ((conv=>whnf);repeat((first|refine Ct ‹_› ?_|refine Cf ‹_› ?_|refine Ct rfl ?_|refine Cf rfl ?_|refine Bi rfl ?_|refine Bz rfl ?_|refine Lr ?_);conv=>whnf))
    rw [okUnt, e1, e2, e3, e4]
    exact ⟨rfl, rfl, rfl⟩
  ((conv=>whnf);repeat((first|refine Ct ‹_› ?_|refine Cf ‹_› ?_|refine Ct rfl ?_|refine Cf rfl ?_|refine Bi rfl ?_|refine Bz rfl ?_|refine Lr ?_);conv=>whnf))
  refine Cnd_i (fun e5 => ?_) (fun e5 => ?_)
  · ((conv=>whnf);repeat((first|refine Ct ‹_› ?_|refine Cf ‹_› ?_|refine Ct rfl ?_|refine Cf rfl ?_|refine Bi rfl ?_|refine Bz rfl ?_|refine Lr ?_);conv=>whnf))
    (refine CallQ_some (F_sizeOf b) ?_ ?_ ?_; rfl; rfl); ((conv=>whnf);repeat((first|refine Ct ‹_› ?_|refine Cf ‹_› ?_|refine Ct rfl ?_|refine Cf rfl ?_|refine Bi rfl ?_|refine Bz rfl ?_|refine Lr ?_);conv=>whnf))
    (refine CallQ_some (F_isIndex _ _ (by unfold i64; omega)) ?_ ?_ ?_; rfl; rfl); ((conv=>whnf);repeat((first|refine Ct ‹_› ?_|refine Cf ‹_› ?_|refine Ct rfl ?_|refine Cf rfl ?_|refine Bi rfl ?_|refine Bz rfl ?_|refine Lr ?_);conv=>whnf))
    rw [hn]
    refine Cnd_i (fun e6 => ?_) (fun e6 => ?_)
    · have d6 := of_decide_eq_true e6
      ((conv=>whnf);repeat((first|refine Ct ‹_› ?_|refine Cf ‹_› ?_|refine Ct rfl ?_|refine Cf rfl ?_|refine Bi rfl ?_|refine Bz rfl ?_|refine Lr ?_);conv=>whnf))
      (refine CallQ_some (F_enterCost b h u.kind u.at' d6.1 (by omega) d2.1 (by omega)) ?_ ?_ ?_; rfl; rfl); ((conv=>whnf);repeat((first|refine Ct ‹_› ?_|refine Cf ‹_› ?_|refine Ct rfl ?_|refine Cf rfl ?_|refine Bi rfl ?_|refine Bz rfl ?_|refine Lr ?_);conv=>whnf))
      rw [okUnt, e1, e2, e3, e4, e5, e6, ne0_pos (h.cost d6.1 (by omega) d2.1 (by omega)).1]
      exact ⟨rfl, rfl, rfl⟩
    · ((conv=>whnf);repeat((first|refine Ct ‹_› ?_|refine Cf ‹_› ?_|refine Ct rfl ?_|refine Cf rfl ?_|refine Bi rfl ?_|refine Bz rfl ?_|refine Lr ?_);conv=>whnf))
      rw [okUnt, e1, e2, e3, e4, e5, e6]
      exact ⟨rfl, rfl, rfl⟩
  · ((conv=>whnf);repeat((first|refine Ct ‹_› ?_|refine Cf ‹_› ?_|refine Ct rfl ?_|refine Cf rfl ?_|refine Bi rfl ?_|refine Bz rfl ?_|refine Lr ?_);conv=>whnf))
    rw [okUnt, e1, e2, e3, e4, e5]
    exact ⟨rfl, rfl, rfl⟩

/-- the places of the first n units that are so -/
def selU (q : Unt → Bool) (us : List Unt) : Nat → List Int
  | 0 => []
  | n + 1 => if q (us.getD n Unt.d) = true then selU q us n ++ [(n : Int)] else selU q us n

theorem selU_le (q : Unt → Bool) (us : List Unt) (n : Nat) : (selU q us n).length ≤ n := by
  induction n with
  | zero => simp [selU]
  | succ n ih =>
    unfold selU
    split
    · rw [List.length_append]; simp; omega
    · omega

def atQ (i side : Int) (u : Unt) : Bool := u.at' == i && u.side == side

theorem F_sAt (s : Stt) (hs : s.un.length ≤ 1048576) (i side : Int) :
    Fun E0 61 [.agg s.cs, vI i, vI side] [] (.v (.one (.own 0 (selU (atQ i side) s.un s.un.length).length))) [(0, rwI (selU (atQ i side) s.un s.un.length))] [] := by
  refine Fun_of_xc k61 rfl rfl (nrC (rwI_no _) nrN) ?_
  ((conv=>whnf);repeat((first|refine Ct ‹_› ?_|refine Cf ‹_› ?_|refine Ct rfl ?_|refine Cf rfl ?_|refine Bi rfl ?_|refine Bz rfl ?_|refine Lr ?_);conv=>whnf))
  refine Rw_i (rwI []) (rwI_nil _) ?_
  ((conv=>whnf);repeat((first|refine Ct ‹_› ?_|refine Cf ‹_› ?_|refine Ct rfl ?_|refine Cf rfl ?_|refine Bi rfl ?_|refine Bz rfl ?_|refine Lr ?_);conv=>whnf))
  refine Rw_i (rwI []) (rwI_nil _) ?_
  ((conv=>whnf);repeat((first|refine Ct ‹_› ?_|refine Cf ‹_› ?_|refine Ct rfl ?_|refine Cf rfl ?_|refine Bi rfl ?_|refine Bz rfl ?_|refine Lr ?_);conv=>whnf))
  refine WLoop_v2 ⟨[1, 2, 7, 11, 12, 13], [], []⟩ (fun (t : Int) (out : List Int) => hdS 34 [(1, .v (vI i)), (2, .v (vI side)), (7, .v (.one (.own (vkey 7) out.length))), (11, .v (.one (roU s.un))), (12, .v (vI s.un.length)), (13, .v (vI t))] [] [(vkey 7, rwI out)])
    (fun n t out => 0 ≤ t ∧ t + n = s.un.length ∧ out = selU (atQ i side) s.un t.toNat) s.un.length 0 [] rfl ⟨by omega, by omega, rfl⟩ ?_
  rintro n t out ⟨h1, h2, h3⟩
  have hle := selU_le (atQ i side) s.un t.toNat
  rw [← h3] at hle
  have hnx : selU (atQ i side) s.un (t + 1).toNat = if atQ i side (s.un.getD t.toNat Unt.d) = true then out ++ [t] else out := by
    rw [show (t + 1).toNat = t.toNat + 1 by omega, selU, ← h3, show ((t.toNat : Nat) : Int) = t by omega]
  ((conv=>whnf);repeat((first|refine Ct ‹_› ?_|refine Cf ‹_› ?_|refine Ct rfl ?_|refine Cf rfl ?_|refine Bi rfl ?_|refine Bz rfl ?_|refine Lr ?_);conv=>whnf))
  refine Cnd_i (fun g => ?_) (fun g => ?_)
  · have ht := of_decide_eq_true g
    ((conv=>whnf);repeat((first|refine Ct ‹_› ?_|refine Cf ‹_› ?_|refine Ct rfl ?_|refine Cf rfl ?_|refine Bi rfl ?_|refine Bz rfl ?_|refine Lr ?_);conv=>whnf))
    refine Bnd_i (⟨h1, ht⟩) ?_; ((conv=>whnf);repeat((first|refine Ct ‹_› ?_|refine Cf ‹_› ?_|refine Ct rfl ?_|refine Cf rfl ?_|refine Bi rfl ?_|refine Bz rfl ?_|refine Lr ?_);conv=>whnf))
    refine Cnd_i (fun g2 => ?_) (fun g2 => ?_)
    · ((conv=>whnf);repeat((first|refine Ct ‹_› ?_|refine Cf ‹_› ?_|refine Ct rfl ?_|refine Cf rfl ?_|refine Bi rfl ?_|refine Bz rfl ?_|refine Lr ?_);conv=>whnf))
      refine Cnd_i (fun g3 => ?_) (fun g3 => ?_)
      · ((conv=>whnf);repeat((first|refine Ct ‹_› ?_|refine Cf ‹_› ?_|refine Ct rfl ?_|refine Cf rfl ?_|refine Bi rfl ?_|refine Bz rfl ?_|refine Lr ?_);conv=>whnf))
        refine Rw_self ?_
        ((conv=>whnf);repeat((first|refine Ct ‹_› ?_|refine Cf ‹_› ?_|refine Ct rfl ?_|refine Cf rfl ?_|refine Bi rfl ?_|refine Bz rfl ?_|refine Lr ?_);conv=>whnf))
        refine Bnd_i ?_ ?_
        · show out.length + 1 < _
          omega
        ((conv=>whnf);repeat((first|refine Ct ‹_› ?_|refine Cf ‹_› ?_|refine Ct rfl ?_|refine Cf rfl ?_|refine Bi rfl ?_|refine Bz rfl ?_|refine Lr ?_);conv=>whnf))
        refine Rw_i (rwI (out ++ [t])) (rwI_app _ _ _ rfl) ?_
        ((conv=>whnf);repeat((first|refine Ct ‹_› ?_|refine Cf ‹_› ?_|refine Ct rfl ?_|refine Cf rfl ?_|refine Bi rfl ?_|refine Bz rfl ?_|refine Lr ?_);conv=>whnf))
        rw [if_pos (by rw [atQ, g2, g3]; rfl)] at hnx
        refine ⟨n - 1, t + 1, out ++ [t], ?_, by omega, by omega, by omega, hnx.symm⟩
        rw [wrapI (by omega)]; rfl
      · ((conv=>whnf);repeat((first|refine Ct ‹_› ?_|refine Cf ‹_› ?_|refine Ct rfl ?_|refine Cf rfl ?_|refine Bi rfl ?_|refine Bz rfl ?_|refine Lr ?_);conv=>whnf))
        rw [if_neg (by rw [atQ, g2, g3]; simp)] at hnx
        refine ⟨n - 1, t + 1, out, ?_, by omega, by omega, by omega, hnx.symm⟩
        rw [wrapI (by omega)]; rfl
    · ((conv=>whnf);repeat((first|refine Ct ‹_› ?_|refine Cf ‹_› ?_|refine Ct rfl ?_|refine Cf rfl ?_|refine Bi rfl ?_|refine Bz rfl ?_|refine Lr ?_);conv=>whnf))
      rw [if_neg (by rw [atQ, g2]; simp)] at hnx
      refine ⟨n - 1, t + 1, out, ?_, by omega, by omega, by omega, hnx.symm⟩
      rw [wrapI (by omega)]; rfl
  · have ht := of_decide_eq_false g
    ((conv=>whnf);repeat((first|refine Ct ‹_› ?_|refine Cf ‹_› ?_|refine Ct rfl ?_|refine Cf rfl ?_|refine Bi rfl ?_|refine Bz rfl ?_|refine Lr ?_);conv=>whnf))
    rw [h3, show t.toNat = s.un.length by omega]
    exact ⟨rfl, rfl, rfl⟩

/-- whose the first unit at a place is, -1 if there is none -/
def ownR (i : Int) : List Unt → Int
  | [] => -1
  | u :: l => if (u.at' == i) = true then u.side else ownR i l

/-! ### how many of a side stand at a place -/
def cnt (us : List Unt) (n : Nat) (i s : Int) : Int := (selU (atQ i s) us n).length

theorem cnt_succ (us : List Unt) (n : Nat) (i s : Int) : cnt us (n + 1) i s = cnt us n i s + (if atQ i s (us.getD n Unt.d) = true then 1 else 0) := by
  unfold cnt
  rw [selU]
  split <;> simp

theorem cnt_b (us : List Unt) (n : Nat) (i s : Int) : 0 ≤ cnt us n i s ∧ cnt us n i s ≤ n := by
  have := selU_le (atQ i s) us n
  unfold cnt; omega

theorem cnt_mono (us : List Unt) {n m : Nat} (h : n ≤ m) (i s : Int) : cnt us n i s ≤ cnt us m i s := by
  induction h with
  | refl => exact Int.le_refl _
  | step _ ih => rw [cnt_succ]; split <;> omega

theorem cnt_pos {us : List Unt} {n k : Nat} {i s : Int} (h : k < n) (ha : (us.getD k Unt.d).at' = i) (hs : (us.getD k Unt.d).side = s) : 1 ≤ cnt us n i s := by
  have h1 := cnt_mono us (show k + 1 ≤ n by omega) i s
  rw [cnt_succ, if_pos (by rw [atQ, ha, hs]; simp)] at h1
  have := (cnt_b us k i s).1
  omega

def stk (st : Int) (us : List Unt) : Prop := ∀ k, k < us.length → 0 ≤ (us.getD k Unt.d).at' → cnt us us.length (us.getD k Unt.d).at' (1 - (us.getD k Unt.d).side) = 0 ∧ cnt us us.length (us.getD k Unt.d).at' (us.getD k Unt.d).side ≤ st

def pre (st : Int) (us : List Unt) (n : Nat) : Prop := ∀ k, k < n → 0 ≤ (us.getD k Unt.d).at' → cnt us (k + 1) (us.getD k Unt.d).at' (1 - (us.getD k Unt.d).side) = 0 ∧ cnt us (k + 1) (us.getD k Unt.d).at' (us.getD k Unt.d).side ≤ st

theorem pre_all {st : Int} {us : List Unt} (h0 : 0 ≤ st) : ∀ {n : Nat}, (∀ k, k < n → (us.getD k Unt.d).side = 0 ∨ (us.getD k Unt.d).side = 1) → pre st us n →
    ∀ i : Int, 0 ≤ i → (cnt us n i 0 = 0 ∨ cnt us n i 1 = 0) ∧ cnt us n i 0 ≤ st ∧ cnt us n i 1 ≤ st
  | 0, _, _, i, _ => by simp [cnt, selU, h0]
  | n + 1, hs, hp, i, hi => by
    have ih := pre_all (n := n) h0 (fun k hk => hs k (by omega)) (fun k hk => hp k (by omega)) i hi
    by_cases e : (us.getD n Unt.d).at' = i
    · have h1 := hp n (by omega) (by omega)
      rw [e] at h1
      rcases hs n (by omega) with e2 | e2
      · rw [e2] at h1
        have h2 : cnt us (n + 1) i 1 = 0 := h1.1
        exact ⟨.inr h2, h1.2, by omega⟩
      · rw [e2] at h1
        have h2 : cnt us (n + 1) i 0 = 0 := h1.1
        exact ⟨.inl h2, by omega, h1.2⟩
    · have z : ∀ s, cnt us (n + 1) i s = cnt us n i s := by
        intro s
        rw [cnt_succ, if_neg (by rw [atQ, show ((us.getD n Unt.d).at' == i) = false from beq_eq_false_iff_ne.2 e]; simp)]; omega
      rw [z, z]; exact ih

theorem stk_pre {st : Int} {us : List Unt} (h0 : 0 ≤ st) (hs : ∀ k, k < us.length → (us.getD k Unt.d).side = 0 ∨ (us.getD k Unt.d).side = 1) : stk st us ↔ pre st us us.length := by
  constructor
  · intro h k hk ha
    obtain ⟨h1, h2⟩ := h k hk ha
    have m1 := cnt_mono us (show k + 1 ≤ us.length by omega) (us.getD k Unt.d).at' (1 - (us.getD k Unt.d).side)
    have m2 := cnt_mono us (show k + 1 ≤ us.length by omega) (us.getD k Unt.d).at' (us.getD k Unt.d).side
    have p1 := (cnt_b us (k + 1) (us.getD k Unt.d).at' (1 - (us.getD k Unt.d).side)).1
    exact ⟨by omega, by omega⟩
  · intro h k hk ha
    obtain ⟨h1, h2, h3⟩ := pre_all h0 hs h _ ha
    have hp := cnt_pos (us := us) (n := us.length) hk rfl rfl
    rcases hs k hk with e | e
    · rw [e] at hp ⊢
      exact ⟨by show cnt us us.length _ 1 = 0; omega, h2⟩
    · rw [e] at hp ⊢
      exact ⟨by show cnt us us.length _ 0 = 0; omega, h3⟩

noncomputable instance instStk (st : Int) (us : List Unt) : Decidable (stk st us) := Classical.propDecidable _

noncomputable def okSt (b : Brd) (s : Stt) : Bool := In s.turn 0 b.r.turns && In s.wea 0 2 && decide (s.un.length ≤ 12) && s.un.all (okUnt b) && @decide (stk b.r.stack s.un) (instStk b.r.stack s.un)

theorem all_drop_ne {α : Type} {q : α → Bool} {l : List α} {d : α} {t : Int} (h0 : 0 ≤ t) (h1 : t < l.length) (h : q (l.getD t.toNat d) = false) : l.all q = false := by
  have hm := getD_memT (d := d) h0 h1
  cases e : l.all q with
  | false => rfl
  | true => rw [List.all_eq_true.1 e _ hm] at h; exact h

theorem all_of_lt {α : Type} {q : α → Bool} {l : List α} (d : α) (h : ∀ k, k < l.length → q (l.getD k d) = true) : l.all q = true := by
  rw [List.all_eq_true]
  intro x hx
  obtain ⟨k, hk, rfl⟩ := List.mem_iff_getElem.1 hx
  have := h k hk
  rwa [List.getD_eq_getElem?_getD, List.getElem?_eq_getElem hk] at this

theorem F_sGood (b : Brd) (ho : b.Ok) (s : Stt) (hs : s.Ok) : Fun E0 27 [.agg b.cs, .agg s.cs] [] (.v (vB (okBrd b && okSt b s))) [] [] := by
  refine Fun_of_xc k27 rfl rfl (fun k q h => by cases h) ?_
  ((conv=>whnf);repeat((first|refine Ct ‹_› ?_|refine Cf ‹_› ?_|refine Ct rfl ?_|refine Cf rfl ?_|refine Bi rfl ?_|refine Bz rfl ?_|refine Lr ?_);conv=>whnf))
  (refine CallQ_some (F_bGood b ho) ?_ ?_ ?_; rfl; rfl); ((conv=>whnf);repeat((first|refine Ct ‹_› ?_|refine Cf ‹_› ?_|refine Ct rfl ?_|refine Cf rfl ?_|refine Bi rfl ?_|refine Bz rfl ?_|refine Lr ?_);conv=>whnf))
  refine Cnd_i (fun g => ?_) (fun g => ?_)
  · have e0 : okBrd b = false := by simpa using g
    ((conv=>whnf);repeat((first|refine Ct ‹_› ?_|refine Cf ‹_› ?_|refine Ct rfl ?_|refine Cf rfl ?_|refine Bi rfl ?_|refine Bz rfl ?_|refine Lr ?_);conv=>whnf))
    rw [e0]
    exact ⟨rfl, rfl, rfl⟩
  have e0 : okBrd b = true := by simpa using g
  have h := GB.of ho e0
  ((conv=>whnf);repeat((first|refine Ct ‹_› ?_|refine Cf ‹_› ?_|refine Ct rfl ?_|refine Cf rfl ?_|refine Bi rfl ?_|refine Bz rfl ?_|refine Lr ?_);conv=>whnf))
  (refine CallQ_some (F_l1In _ _ _) ?_ ?_ ?_; rfl; rfl); ((conv=>whnf);repeat((first|refine Ct ‹_› ?_|refine Cf ‹_› ?_|refine Ct rfl ?_|refine Cf rfl ?_|refine Bi rfl ?_|refine Bz rfl ?_|refine Lr ?_);conv=>whnf))
  refine Cnd_i (fun g => ?_) (fun g => ?_)
  · have e1 : In s.turn 0 b.r.turns = false := by simpa using g
    ((conv=>whnf);repeat((first|refine Ct ‹_› ?_|refine Cf ‹_› ?_|refine Ct rfl ?_|refine Cf rfl ?_|refine Bi rfl ?_|refine Bz rfl ?_|refine Lr ?_);conv=>whnf))
    rw [e0, okSt, e1]
    exact ⟨rfl, rfl, rfl⟩
  have e1 : In s.turn 0 b.r.turns = true := by simpa using g
  ((conv=>whnf);repeat((first|refine Ct ‹_› ?_|refine Cf ‹_› ?_|refine Ct rfl ?_|refine Cf rfl ?_|refine Bi rfl ?_|refine Bz rfl ?_|refine Lr ?_);conv=>whnf))
  (refine CallQ_some (F_l1In _ _ _) ?_ ?_ ?_; rfl; rfl); ((conv=>whnf);repeat((first|refine Ct ‹_› ?_|refine Cf ‹_› ?_|refine Ct rfl ?_|refine Cf rfl ?_|refine Bi rfl ?_|refine Bz rfl ?_|refine Lr ?_);conv=>whnf))
  refine Cnd_i (fun g => ?_) (fun g => ?_)
  · have e2 : In s.wea 0 2 = false := by simpa using g
    ((conv=>whnf);repeat((first|refine Ct ‹_› ?_|refine Cf ‹_› ?_|refine Ct rfl ?_|refine Cf rfl ?_|refine Bi rfl ?_|refine Bz rfl ?_|refine Lr ?_);conv=>whnf))
    rw [e0, okSt, e1, e2]
    exact ⟨rfl, rfl, rfl⟩
  have e2 : In s.wea 0 2 = true := by simpa using g
  ((conv=>whnf);repeat((first|refine Ct ‹_› ?_|refine Cf ‹_› ?_|refine Ct rfl ?_|refine Cf rfl ?_|refine Bi rfl ?_|refine Bz rfl ?_|refine Lr ?_);conv=>whnf))
  refine Cnd_i (fun g => ?_) (fun g => ?_)
  · have e3 : decide (s.un.length ≤ 12) = false := by
      have := of_decide_eq_true g
      exact decide_eq_false (by omega)
    ((conv=>whnf);repeat((first|refine Ct ‹_› ?_|refine Cf ‹_› ?_|refine Ct rfl ?_|refine Cf rfl ?_|refine Bi rfl ?_|refine Bz rfl ?_|refine Lr ?_);conv=>whnf))
    rw [e0, okSt, e1, e2, e3]
    exact ⟨rfl, rfl, rfl⟩
  have hl : s.un.length ≤ 12 := by
    have := of_decide_eq_false g
    omega
  have e3 : decide (s.un.length ≤ 12) = true := decide_eq_true hl
  ((conv=>whnf);repeat((first|refine Ct ‹_› ?_|refine Cf ‹_› ?_|refine Ct rfl ?_|refine Cf rfl ?_|refine Bi rfl ?_|refine Bz rfl ?_|refine Lr ?_);conv=>whnf))
  refine WLoop_v ⟨[2, 3, 34, 35, 36], [2, 3], []⟩ (fun t : Int => hdS 80 [(2, .v (.one (.box 2 0))), (3, .v (.one (.box 3 0))), (34, .v (.one (roU s.un))), (35, .v (vI s.un.length)), (36, .v (vI t))] [(2, b.cs), (3, s.cs)] [])
    (fun n t => 0 ≤ t ∧ t + n = s.un.length ∧ ∀ k : Nat, (k : Int) < t → okUnt b (s.un.getD k Unt.d) = true) s.un.length 0 rfl ⟨by omega, by omega, fun k hk => by omega⟩ ?_
  rintro n t ⟨h1, h2, h3⟩
  ((conv=>whnf);repeat((first|refine Ct ‹_› ?_|refine Cf ‹_› ?_|refine Ct rfl ?_|refine Cf rfl ?_|refine Bi rfl ?_|refine Bz rfl ?_|refine Lr ?_);conv=>whnf))
  refine Cnd_i (fun g => ?_) (fun g => ?_)
  · have ht := of_decide_eq_true g
    ((conv=>whnf);repeat((first|refine Ct ‹_› ?_|refine Cf ‹_› ?_|refine Ct rfl ?_|refine Cf rfl ?_|refine Bi rfl ?_|refine Bz rfl ?_|refine Lr ?_);conv=>whnf))
    refine Bnd_i (⟨h1, ht⟩) ?_; ((conv=>whnf);repeat((first|refine Ct ‹_› ?_|refine Cf ‹_› ?_|refine Ct rfl ?_|refine Cf rfl ?_|refine Bi rfl ?_|refine Bz rfl ?_|refine Lr ?_);conv=>whnf))
    (refine CallQ_some (F_sUnit b h (s.un.getD t.toNat Unt.d)) ?_ ?_ ?_; rfl; rfl); ((conv=>whnf);repeat((first|refine Ct ‹_› ?_|refine Cf ‹_› ?_|refine Ct rfl ?_|refine Cf rfl ?_|refine Bi rfl ?_|refine Bz rfl ?_|refine Lr ?_);conv=>whnf))
    refine Cnd_i (fun g => ?_) (fun g => ?_)
    · have e4 : okUnt b (s.un.getD t.toNat Unt.d) = false := by simpa using g
      ((conv=>whnf);repeat((first|refine Ct ‹_› ?_|refine Cf ‹_› ?_|refine Ct rfl ?_|refine Cf rfl ?_|refine Bi rfl ?_|refine Bz rfl ?_|refine Lr ?_);conv=>whnf))
      rw [e0, okSt, e1, e2, e3, all_drop_ne h1 ht e4]
      exact ⟨rfl, rfl, rfl⟩
    have e4 : okUnt b (s.un.getD t.toNat Unt.d) = true := by simpa using g
    ((conv=>whnf);repeat((first|refine Ct ‹_› ?_|refine Cf ‹_› ?_|refine Ct rfl ?_|refine Cf rfl ?_|refine Bi rfl ?_|refine Bz rfl ?_|refine Lr ?_);conv=>whnf))
    refine ⟨n - 1, t + 1, ?_, by omega, by omega, by omega, fun k hk => ?_⟩
    · rw [wrapI (by omega)]; rfl
    · by_cases e : (k : Int) < t
      · exact h3 k e
      · rw [show k = t.toNat by omega]; exact e4
  have ht := of_decide_eq_false g
  have hu : ∀ k, k < s.un.length → okUnt b (s.un.getD k Unt.d) = true := fun k hk => h3 k (by omega)
  have e4 : s.un.all (okUnt b) = true := all_of_lt Unt.d hu
  have hU : ∀ k, k < s.un.length → UnOk b (s.un.getD k Unt.d) := fun k hk => UnOk.of h (hu k hk)
  ((conv=>whnf);repeat((first|refine Ct ‹_› ?_|refine Cf ‹_› ?_|refine Ct rfl ?_|refine Cf rfl ?_|refine Bi rfl ?_|refine Bz rfl ?_|refine Lr ?_);conv=>whnf))
  refine WLoop_v ⟨[2, 3, 46, 47, 48], [2, 3], []⟩ (fun t : Int => hdS 80 [(2, .v (.one (.box 2 0))), (3, .v (.one (.box 3 0))), (46, .v (.one (roU s.un))), (47, .v (vI s.un.length)), (48, .v (vI t))] [(2, b.cs), (3, s.cs)] [])
    (fun n t => 0 ≤ t ∧ t + n = s.un.length ∧ ∀ k : Nat, (k : Int) < t → 0 ≤ (s.un.getD k Unt.d).at' → cnt s.un s.un.length (s.un.getD k Unt.d).at' (1 - (s.un.getD k Unt.d).side) = 0 ∧ cnt s.un s.un.length (s.un.getD k Unt.d).at' (s.un.getD k Unt.d).side ≤ b.r.stack) s.un.length 0 rfl ⟨by omega, by omega, fun k hk => by omega⟩ ?_
  rintro n t ⟨h1, h2, h3⟩
  ((conv=>whnf);repeat((first|refine Ct ‹_› ?_|refine Cf ‹_› ?_|refine Ct rfl ?_|refine Cf rfl ?_|refine Bi rfl ?_|refine Bz rfl ?_|refine Lr ?_);conv=>whnf))
  refine Cnd_i (fun g => ?_) (fun g => ?_)
  · have ht := of_decide_eq_true g
    have hX := hU t.toNat (by omega)
    have hn : s.un.length - 1 - (s.un.length - 1) = 0 := by omega
    ((conv=>whnf);repeat((first|refine Ct ‹_› ?_|refine Cf ‹_› ?_|refine Ct rfl ?_|refine Cf rfl ?_|refine Bi rfl ?_|refine Bz rfl ?_|refine Lr ?_);conv=>whnf))
    refine Bnd_i (⟨h1, ht⟩) ?_; ((conv=>whnf);repeat((first|refine Ct ‹_› ?_|refine Cf ‹_› ?_|refine Ct rfl ?_|refine Cf rfl ?_|refine Bi rfl ?_|refine Bz rfl ?_|refine Lr ?_);conv=>whnf))
    refine Cnd_i (fun g5 => ?_) (fun g5 => ?_)
    · have d5 := of_decide_eq_true g5
      ((conv=>whnf);repeat((first|refine Ct ‹_› ?_|refine Cf ‹_› ?_|refine Ct rfl ?_|refine Cf rfl ?_|refine Bi rfl ?_|refine Bz rfl ?_|refine Lr ?_);conv=>whnf))
      rw [wrapI (n := 1 - (s.un.getD t.toNat Unt.d).side) (by have := hX.side; omega)]
      (refine CallQ_some (F_sAt s (by omega) (s.un.getD t.toNat Unt.d).at' (1 - (s.un.getD t.toNat Unt.d).side)) ?_ ?_ ?_; rfl; rfl); ((conv=>whnf);repeat((first|refine Ct ‹_› ?_|refine Cf ‹_› ?_|refine Ct rfl ?_|refine Cf rfl ?_|refine Bi rfl ?_|refine Bz rfl ?_|refine Lr ?_);conv=>whnf))
      refine Cnd_i (fun g6 => ?_) (fun g6 => ?_)
      · have d6 := of_decide_eq_true g6
        ((conv=>whnf);repeat((first|refine Ct ‹_› ?_|refine Cf ‹_› ?_|refine Ct rfl ?_|refine Cf rfl ?_|refine Bi rfl ?_|refine Bz rfl ?_|refine Lr ?_);conv=>whnf))
        have e5 : ¬ stk b.r.stack s.un := fun hh => by
          have := (hh t.toNat (by omega) d5).1
          unfold cnt at this
          omega
        rw [e0, okSt, e1, e2, e3, e4, decide_eq_false e5]
        exact ⟨rfl, rfl, rfl⟩
      have d6 := of_decide_eq_false g6
      ((conv=>whnf);repeat((first|refine Ct ‹_› ?_|refine Cf ‹_› ?_|refine Ct rfl ?_|refine Cf rfl ?_|refine Bi rfl ?_|refine Bz rfl ?_|refine Lr ?_);conv=>whnf))
      (refine CallQ_some (F_sAt s (by omega) (s.un.getD t.toNat Unt.d).at' (s.un.getD t.toNat Unt.d).side) ?_ ?_ ?_; rfl; rfl); ((conv=>whnf);repeat((first|refine Ct ‹_› ?_|refine Cf ‹_› ?_|refine Ct rfl ?_|refine Cf rfl ?_|refine Bi rfl ?_|refine Bz rfl ?_|refine Lr ?_);conv=>whnf))
      refine Cnd_i (fun g7 => ?_) (fun g7 => ?_)
      · have d7 := of_decide_eq_true g7
        ((conv=>whnf);repeat((first|refine Ct ‹_› ?_|refine Cf ‹_› ?_|refine Ct rfl ?_|refine Cf rfl ?_|refine Bi rfl ?_|refine Bz rfl ?_|refine Lr ?_);conv=>whnf))
        have e5 : ¬ stk b.r.stack s.un := fun hh => by
          have := (hh t.toNat (by omega) d5).2
          unfold cnt at this
          omega
        rw [e0, okSt, e1, e2, e3, e4, decide_eq_false e5]
        exact ⟨rfl, rfl, rfl⟩
      have d7 := of_decide_eq_false g7
      ((conv=>whnf);repeat((first|refine Ct ‹_› ?_|refine Cf ‹_› ?_|refine Ct rfl ?_|refine Cf rfl ?_|refine Bi rfl ?_|refine Bz rfl ?_|refine Lr ?_);conv=>whnf))
      refine ⟨n - 1, t + 1, ?_, by omega, by omega, by omega, fun k hk => ?_⟩
      · rw [wrapI (by omega)]; rfl
      · by_cases e : (k : Int) < t
        · exact h3 k e
        · rw [show k = t.toNat by omega]
          intro _
          unfold cnt
          omega
    · have d5 := of_decide_eq_false g5
      ((conv=>whnf);repeat((first|refine Ct ‹_› ?_|refine Cf ‹_› ?_|refine Ct rfl ?_|refine Cf rfl ?_|refine Bi rfl ?_|refine Bz rfl ?_|refine Lr ?_);conv=>whnf))
      refine ⟨n - 1, t + 1, ?_, by omega, by omega, by omega, fun k hk => ?_⟩
      · rw [wrapI (by omega)]; rfl
      · by_cases e : (k : Int) < t
        · exact h3 k e
        · rw [show k = t.toNat by omega]
          exact fun hh => absurd hh (by omega)
  have ht := of_decide_eq_false g
  ((conv=>whnf);repeat((first|refine Ct ‹_› ?_|refine Cf ‹_› ?_|refine Ct rfl ?_|refine Cf rfl ?_|refine Bi rfl ?_|refine Bz rfl ?_|refine Lr ?_);conv=>whnf))
  have e5 : stk b.r.stack s.un := fun k hk => h3 k (by omega)
  rw [e0, okSt, e1, e2, e3, e4, decide_eq_true e5]
  exact ⟨rfl, rfl, rfl⟩

theorem atQ_iff {i side : Int} {u : Unt} : atQ i side u = true ↔ u.at' = i ∧ u.side = side := by simp [atQ]

abbrev rwC (us : List Unt) (N : Nat) (t : Nat) : Row := ⟨false, 2, N, fun i j => cI (cnt us t i j)⟩

theorem F_goodState (b : Brd) (h : GB b) (s : Stt) (hs : s.Ok) : Fun E0 67 [.agg b.cs, .agg s.cs] [] (.v (vB (okSt b s))) [] [] := by
  have hst : 0 ≤ b.r.stack := by
    have := h.nums
    simp only [numsOk, Bool.and_eq_true] at this
    have := of_decide_eq_true this.1.1.1.1
    omega
  have hN := h.n
  have hNl : b.m.ter.length ≤ 1048576 := by have := h.wh.mul; omega
  refine Fun_of_xc k67 rfl rfl (fun k q h => by cases h) ?_
  ((conv=>whnf);repeat((first|refine Ct ‹_› ?_|refine Cf ‹_› ?_|refine Ct rfl ?_|refine Cf rfl ?_|refine Bi rfl ?_|refine Bz rfl ?_|refine Lr ?_);conv=>whnf))
  (refine CallQ_some (F_inRange _ _ _) ?_ ?_ ?_; rfl; rfl); ((conv=>whnf);repeat((first|refine Ct ‹_› ?_|refine Cf ‹_› ?_|refine Ct rfl ?_|refine Cf rfl ?_|refine Bi rfl ?_|refine Bz rfl ?_|refine Lr ?_);conv=>whnf))
  refine Cnd_i (fun g => ?_) (fun g => ?_)
  · have e1 : In s.turn 0 b.r.turns = false := by simpa using g
    ((conv=>whnf);repeat((first|refine Ct ‹_› ?_|refine Cf ‹_› ?_|refine Ct rfl ?_|refine Cf rfl ?_|refine Bi rfl ?_|refine Bz rfl ?_|refine Lr ?_);conv=>whnf))
    rw [okSt, e1]
    exact ⟨rfl, rfl, rfl⟩
  have e1 : In s.turn 0 b.r.turns = true := by simpa using g
  ((conv=>whnf);repeat((first|refine Ct ‹_› ?_|refine Cf ‹_› ?_|refine Ct rfl ?_|refine Cf rfl ?_|refine Bi rfl ?_|refine Bz rfl ?_|refine Lr ?_);conv=>whnf))
  (refine CallQ_some (F_inRange _ _ _) ?_ ?_ ?_; rfl; rfl); ((conv=>whnf);repeat((first|refine Ct ‹_› ?_|refine Cf ‹_› ?_|refine Ct rfl ?_|refine Cf rfl ?_|refine Bi rfl ?_|refine Bz rfl ?_|refine Lr ?_);conv=>whnf))
  refine Cnd_i (fun g => ?_) (fun g => ?_)
  · have e2 : In s.wea 0 2 = false := by simpa using g
    ((conv=>whnf);repeat((first|refine Ct ‹_› ?_|refine Cf ‹_› ?_|refine Ct rfl ?_|refine Cf rfl ?_|refine Bi rfl ?_|refine Bz rfl ?_|refine Lr ?_);conv=>whnf))
    rw [okSt, e1, e2]
    exact ⟨rfl, rfl, rfl⟩
  have e2 : In s.wea 0 2 = true := by simpa using g
  ((conv=>whnf);repeat((first|refine Ct ‹_› ?_|refine Cf ‹_› ?_|refine Ct rfl ?_|refine Cf rfl ?_|refine Bi rfl ?_|refine Bz rfl ?_|refine Lr ?_);conv=>whnf))
  refine Cnd_i (fun g => ?_) (fun g => ?_)
  · have e3 : decide (s.un.length ≤ 12) = false := by
      have := of_decide_eq_true g
      exact decide_eq_false (by omega)
    ((conv=>whnf);repeat((first|refine Ct ‹_› ?_|refine Cf ‹_› ?_|refine Ct rfl ?_|refine Cf rfl ?_|refine Bi rfl ?_|refine Bz rfl ?_|refine Lr ?_);conv=>whnf))
    rw [okSt, e1, e2, e3]
    exact ⟨rfl, rfl, rfl⟩
  have hl : s.un.length ≤ 12 := by
    have := of_decide_eq_false g
    omega
  have e3 : decide (s.un.length ≤ 12) = true := decide_eq_true hl
  ((conv=>whnf);repeat((first|refine Ct ‹_› ?_|refine Cf ‹_› ?_|refine Ct rfl ?_|refine Cf rfl ?_|refine Bi rfl ?_|refine Bz rfl ?_|refine Lr ?_);conv=>whnf))
  (refine CallQ_some (F_sizeOf b) ?_ ?_ ?_; rfl; rfl); ((conv=>whnf);repeat((first|refine Ct ‹_› ?_|refine Cf ‹_› ?_|refine Ct rfl ?_|refine Cf rfl ?_|refine Bi rfl ?_|refine Bz rfl ?_|refine Lr ?_);conv=>whnf))
  refine Bnd_i ?_ ?_
  · omega
  ((conv=>whnf);repeat((first|refine Ct ‹_› ?_|refine Cf ‹_› ?_|refine Ct rfl ?_|refine Cf rfl ?_|refine Bi rfl ?_|refine Bz rfl ?_|refine Lr ?_);conv=>whnf))
  refine Rw_i (rwC s.un b.m.ter.length 0) ⟨rfl, rfl, by simp [zeroRow], fun i j hi hj => ?_⟩ ?_
  · have hj : j < 2 := hj
    match j, hj with
    | 0, _ => rfl
    | 1, _ => rfl
  ((conv=>whnf);repeat((first|refine Ct ‹_› ?_|refine Cf ‹_› ?_|refine Ct rfl ?_|refine Cf rfl ?_|refine Bi rfl ?_|refine Bz rfl ?_|refine Lr ?_);conv=>whnf))
  refine WLoop_v ⟨[2, 5, 31, 32, 33], [2], []⟩ (fun t : Int => hdS 80 [(2, .v (.one (.box 2 0))), (5, .v (.one (.own (vkey 5) b.m.ter.length))), (31, .v (.one (roU s.un))), (32, .v (vI s.un.length)), (33, .v (vI t))] [(2, b.cs)] [(vkey 5, rwC s.un b.m.ter.length t.toNat)])
    (fun n t => 0 ≤ t ∧ t + n = s.un.length ∧ (∀ k : Nat, (k : Int) < t → okUnt b (s.un.getD k Unt.d) = true) ∧ pre b.r.stack s.un t.toNat) s.un.length 0 rfl ⟨by omega, by omega, fun k hk => by omega, fun k hk => by omega⟩ ?_
  rintro n t ⟨h1, h2, h3, h4⟩
  ((conv=>whnf);repeat((first|refine Ct ‹_› ?_|refine Cf ‹_› ?_|refine Ct rfl ?_|refine Cf rfl ?_|refine Bi rfl ?_|refine Bz rfl ?_|refine Lr ?_);conv=>whnf))
  refine Cnd_i (fun g => ?_) (fun g => ?_)
  · have ht := of_decide_eq_true g
    ((conv=>whnf);repeat((first|refine Ct ‹_› ?_|refine Cf ‹_› ?_|refine Ct rfl ?_|refine Cf rfl ?_|refine Bi rfl ?_|refine Bz rfl ?_|refine Lr ?_);conv=>whnf))
    refine Bnd_i (⟨h1, ht⟩) ?_; ((conv=>whnf);repeat((first|refine Ct ‹_› ?_|refine Cf ‹_› ?_|refine Ct rfl ?_|refine Cf rfl ?_|refine Bi rfl ?_|refine Bz rfl ?_|refine Lr ?_);conv=>whnf))
    (refine CallQ_some (F_goodUnit b h (s.un.getD t.toNat Unt.d)) ?_ ?_ ?_; rfl; rfl); ((conv=>whnf);repeat((first|refine Ct ‹_› ?_|refine Cf ‹_› ?_|refine Ct rfl ?_|refine Cf rfl ?_|refine Bi rfl ?_|refine Bz rfl ?_|refine Lr ?_);conv=>whnf))
    refine Cnd_i (fun g => ?_) (fun g => ?_)
    · have e4 : okUnt b (s.un.getD t.toNat Unt.d) = false := by simpa using g
      ((conv=>whnf);repeat((first|refine Ct ‹_› ?_|refine Cf ‹_› ?_|refine Ct rfl ?_|refine Cf rfl ?_|refine Bi rfl ?_|refine Bz rfl ?_|refine Lr ?_);conv=>whnf))
      rw [okSt, e1, e2, e3, all_drop_ne h1 ht e4]
      exact ⟨rfl, rfl, rfl⟩
    have e4 : okUnt b (s.un.getD t.toNat Unt.d) = true := by simpa using g
    have hU := UnOk.of h e4
    have h3' : ∀ k : Nat, (k : Int) < t + 1 → okUnt b (s.un.getD k Unt.d) = true := fun k hk => by
      by_cases e : (k : Int) < t
      · exact h3 k e
      · rw [show k = t.toNat by omega]; exact e4
    have hs1 := cnt_succ s.un t.toNat
    have hb1 := fun i s' => (cnt_b s.un t.toNat i s')
    ((conv=>whnf);repeat((first|refine Ct ‹_› ?_|refine Cf ‹_› ?_|refine Ct rfl ?_|refine Cf rfl ?_|refine Bi rfl ?_|refine Bz rfl ?_|refine Lr ?_);conv=>whnf))
    refine Cnd_i (fun g5 => ?_) (fun g5 => ?_)
    · have d5 := of_decide_eq_true g5
      ((conv=>whnf);repeat((first|refine Ct ‹_› ?_|refine Cf ‹_› ?_|refine Ct rfl ?_|refine Cf rfl ?_|refine Bi rfl ?_|refine Bz rfl ?_|refine Lr ?_);conv=>whnf))
      have hx : ∀ i : Nat, ∀ s', cnt s.un (t.toNat + 1) i s' = cnt s.un t.toNat i s' := fun i s' => by
        rw [hs1, if_neg (by rw [atQ, show ((s.un.getD t.toNat Unt.d).at' == (i : Int)) = false from beq_eq_false_iff_ne.2 (by omega)]; simp)]
        omega
      refine ⟨n - 1, t + 1, ?_, by omega, by omega, by omega, h3', ?_⟩
      · rw [wrapI (by omega), show (t + 1).toNat = t.toNat + 1 by omega]
        unfold rwC
        simp only [hx]
        rfl
      · rw [show (t + 1).toNat = t.toNat + 1 by omega]
        intro k hk ha
        by_cases e : k < t.toNat
        · exact h4 k e ha
        · rw [show k = t.toNat by omega] at ha
          omega
    · have d5 := of_decide_eq_false g5
      have hat : 0 ≤ (s.un.getD t.toNat Unt.d).at' ∧ (s.un.getD t.toNat Unt.d).at' < b.m.ter.length := by have := hU.at'; omega
      ((conv=>whnf);repeat((first|refine Ct ‹_› ?_|refine Cf ‹_› ?_|refine Ct rfl ?_|refine Cf rfl ?_|refine Bi rfl ?_|refine Bz rfl ?_|refine Lr ?_);conv=>whnf))
      refine Bnd_i (hat) ?_; ((conv=>whnf);repeat((first|refine Ct ‹_› ?_|refine Cf ‹_› ?_|refine Ct rfl ?_|refine Cf rfl ?_|refine Bi rfl ?_|refine Bz rfl ?_|refine Lr ?_);conv=>whnf))
      refine Bnd_i (⟨by have := hU.side; omega, by have := hU.side; show _ < (2 : Int); omega⟩) ?_; ((conv=>whnf);repeat((first|refine Ct ‹_› ?_|refine Cf ‹_› ?_|refine Ct rfl ?_|refine Cf rfl ?_|refine Bi rfl ?_|refine Bz rfl ?_|refine Lr ?_);conv=>whnf))
      have hsd := hU.side
      have hsi : 0 ≤ (s.un.getD t.toNat Unt.d).side ∧ (s.un.getD t.toNat Unt.d).side < ((2 : Nat) : Int) := by omega
      have hso : 0 + (s.un.getD t.toNat Unt.d).side.toNat * 1 + 1 ≤ 2 := by omega
      have hso2 : 0 + (1 - (s.un.getD t.toNat Unt.d).side).toNat * 1 + 1 ≤ 2 := by omega
      refine Bnd_i (Nat.ble_eq_true_of_le hso) ?_; ((conv=>whnf);repeat((first|refine Ct ‹_› ?_|refine Cf ‹_› ?_|refine Ct rfl ?_|refine Cf rfl ?_|refine Bi rfl ?_|refine Bz rfl ?_|refine Lr ?_);conv=>whnf))
      refine Bnd_i (hat) ?_; ((conv=>whnf);repeat((first|refine Ct ‹_› ?_|refine Cf ‹_› ?_|refine Ct rfl ?_|refine Cf rfl ?_|refine Bi rfl ?_|refine Bz rfl ?_|refine Lr ?_);conv=>whnf))
      refine Bnd_i (hsi) ?_; ((conv=>whnf);repeat((first|refine Ct ‹_› ?_|refine Cf ‹_› ?_|refine Ct rfl ?_|refine Cf rfl ?_|refine Bi rfl ?_|refine Bz rfl ?_|refine Lr ?_);conv=>whnf))
      refine Bnd_i (Nat.ble_eq_true_of_le hso) ?_; ((conv=>whnf);repeat((first|refine Ct ‹_› ?_|refine Cf ‹_› ?_|refine Ct rfl ?_|refine Cf rfl ?_|refine Bi rfl ?_|refine Bz rfl ?_|refine Lr ?_);conv=>whnf))
      refine Rw_i (rwC s.un b.m.ter.length (t.toNat + 1)) ⟨rfl, rfl, rfl, fun i j hi hj => ?_⟩ ?_
      · have hj : j < 2 := hj
        show wrG (rwC s.un b.m.ter.length t.toNat).get (s.un.getD t.toNat Unt.d).at'.toNat (0 + (s.un.getD t.toNat Unt.d).side.toNat * 1) [cI (IntKind.i64.wrap (cnt s.un t.toNat ((s.un.getD t.toNat Unt.d).at'.toNat : Nat) ((0 + (s.un.getD t.toNat Unt.d).side.toNat * 1 : Nat)) + 1))] i j = cI (cnt s.un (t.toNat + 1) i j)
        by_cases e : i = (s.un.getD t.toNat Unt.d).at'.toNat ∧ j = (s.un.getD t.toNat Unt.d).side.toNat
        · obtain ⟨rfl, rfl⟩ := e
          rw [wrG_in (by simp), show 0 + (s.un.getD t.toNat Unt.d).side.toNat * 1 = (s.un.getD t.toNat Unt.d).side.toNat by omega, hs1, if_pos (atQ_iff.2 ⟨by omega, by omega⟩), wrapI (by have := hb1 ((s.un.getD t.toNat Unt.d).at'.toNat : Nat) ((s.un.getD t.toNat Unt.d).side.toNat : Nat); omega)]
          simp [nth]
        · rw [wrG_out (by rintro ⟨e1, e2, e3⟩; have e3' : j < 0 + (s.un.getD t.toNat Unt.d).side.toNat * 1 + 1 := e3; exact e ⟨e1, by omega⟩)]
          show cI _ = cI _
          rw [hs1, if_neg (fun hh => e (by have := atQ_iff.1 hh; omega)), Int.add_zero]
      ((conv=>whnf);repeat((first|refine Ct ‹_› ?_|refine Cf ‹_› ?_|refine Ct rfl ?_|refine Cf rfl ?_|refine Bi rfl ?_|refine Bz rfl ?_|refine Lr ?_);conv=>whnf))
      refine Bnd_i (hat) ?_; ((conv=>whnf);repeat((first|refine Ct ‹_› ?_|refine Cf ‹_› ?_|refine Ct rfl ?_|refine Cf rfl ?_|refine Bi rfl ?_|refine Bz rfl ?_|refine Lr ?_);conv=>whnf))
      rw [wrapI (n := 1 - (s.un.getD t.toNat Unt.d).side) (by omega)]
      refine Bnd_i (⟨by omega, by omega⟩) ?_; ((conv=>whnf);repeat((first|refine Ct ‹_› ?_|refine Cf ‹_› ?_|refine Ct rfl ?_|refine Cf rfl ?_|refine Bi rfl ?_|refine Bz rfl ?_|refine Lr ?_);conv=>whnf))
      refine Bnd_i (Nat.ble_eq_true_of_le hso2) ?_; ((conv=>whnf);repeat((first|refine Ct ‹_› ?_|refine Cf ‹_› ?_|refine Ct rfl ?_|refine Cf rfl ?_|refine Bi rfl ?_|refine Bz rfl ?_|refine Lr ?_);conv=>whnf))
      have ea : (((s.un.getD t.toNat Unt.d).at'.toNat : Nat) : Int) = (s.un.getD t.toNat Unt.d).at' := by omega
      have eb : ((0 + (1 - (s.un.getD t.toNat Unt.d).side).toNat * 1 : Nat) : Int) = 1 - (s.un.getD t.toNat Unt.d).side := by omega
      have ec : ((0 + (s.un.getD t.toNat Unt.d).side.toNat * 1 : Nat) : Int) = (s.un.getD t.toNat Unt.d).side := by omega
      have bad : ¬ (cnt s.un (t.toNat + 1) (s.un.getD t.toNat Unt.d).at' (1 - (s.un.getD t.toNat Unt.d).side) = 0 ∧ cnt s.un (t.toNat + 1) (s.un.getD t.toNat Unt.d).at' (s.un.getD t.toNat Unt.d).side ≤ b.r.stack) → decide (stk b.r.stack s.un) = false := fun hh => by
        refine decide_eq_false fun hk => hh ?_
        have a1 := hk t.toNat (by omega) hat.1
        have a2 := cnt_mono s.un (show t.toNat + 1 ≤ s.un.length by omega) (s.un.getD t.toNat Unt.d).at' (1 - (s.un.getD t.toNat Unt.d).side)
        have a3 := cnt_mono s.un (show t.toNat + 1 ≤ s.un.length by omega) (s.un.getD t.toNat Unt.d).at' (s.un.getD t.toNat Unt.d).side
        have a4 := (cnt_b s.un (t.toNat + 1) (s.un.getD t.toNat Unt.d).at' (1 - (s.un.getD t.toNat Unt.d).side)).1
        omega
      have a4 := (cnt_b s.un (t.toNat + 1) (s.un.getD t.toNat Unt.d).at' (1 - (s.un.getD t.toNat Unt.d).side)).1
      refine Cnd_i (fun g6 => ?_) (fun g6 => ?_)
      · have d6 : cnt s.un (t.toNat + 1) ((s.un.getD t.toNat Unt.d).at'.toNat : Nat) ((0 + (1 - (s.un.getD t.toNat Unt.d).side).toNat * 1 : Nat)) > 0 := of_decide_eq_true g6
        rw [ea, eb] at d6
        ((conv=>whnf);repeat((first|refine Ct ‹_› ?_|refine Cf ‹_› ?_|refine Ct rfl ?_|refine Cf rfl ?_|refine Bi rfl ?_|refine Bz rfl ?_|refine Lr ?_);conv=>whnf))
        rw [okSt, e1, e2, e3, bad (by omega)]
        rw [Bool.and_false]
        exact ⟨rfl, rfl, rfl⟩
      · have d6 : ¬ cnt s.un (t.toNat + 1) ((s.un.getD t.toNat Unt.d).at'.toNat : Nat) ((0 + (1 - (s.un.getD t.toNat Unt.d).side).toNat * 1 : Nat)) > 0 := of_decide_eq_false g6
        rw [ea, eb] at d6
        ((conv=>whnf);repeat((first|refine Ct ‹_› ?_|refine Cf ‹_› ?_|refine Ct rfl ?_|refine Cf rfl ?_|refine Bi rfl ?_|refine Bz rfl ?_|refine Lr ?_);conv=>whnf))
        refine Bnd_i (hat) ?_; ((conv=>whnf);repeat((first|refine Ct ‹_› ?_|refine Cf ‹_› ?_|refine Ct rfl ?_|refine Cf rfl ?_|refine Bi rfl ?_|refine Bz rfl ?_|refine Lr ?_);conv=>whnf))
        refine Bnd_i (hsi) ?_; ((conv=>whnf);repeat((first|refine Ct ‹_› ?_|refine Cf ‹_› ?_|refine Ct rfl ?_|refine Cf rfl ?_|refine Bi rfl ?_|refine Bz rfl ?_|refine Lr ?_);conv=>whnf))
        refine Bnd_i (Nat.ble_eq_true_of_le hso) ?_; ((conv=>whnf);repeat((first|refine Ct ‹_› ?_|refine Cf ‹_› ?_|refine Ct rfl ?_|refine Cf rfl ?_|refine Bi rfl ?_|refine Bz rfl ?_|refine Lr ?_);conv=>whnf))
        refine Cnd_i (fun g7 => ?_) (fun g7 => ?_)
        · have d7 : cnt s.un (t.toNat + 1) ((s.un.getD t.toNat Unt.d).at'.toNat : Nat) ((0 + (s.un.getD t.toNat Unt.d).side.toNat * 1 : Nat)) > b.r.stack := of_decide_eq_true g7
          rw [ea, ec] at d7
          ((conv=>whnf);repeat((first|refine Ct ‹_› ?_|refine Cf ‹_› ?_|refine Ct rfl ?_|refine Cf rfl ?_|refine Bi rfl ?_|refine Bz rfl ?_|refine Lr ?_);conv=>whnf))
          rw [okSt, e1, e2, e3, bad (by omega)]
          rw [Bool.and_false]
          exact ⟨rfl, rfl, rfl⟩
        · have d7 : ¬ cnt s.un (t.toNat + 1) ((s.un.getD t.toNat Unt.d).at'.toNat : Nat) ((0 + (s.un.getD t.toNat Unt.d).side.toNat * 1 : Nat)) > b.r.stack := of_decide_eq_false g7
          rw [ea, ec] at d7
          ((conv=>whnf);repeat((first|refine Ct ‹_› ?_|refine Cf ‹_› ?_|refine Ct rfl ?_|refine Cf rfl ?_|refine Bi rfl ?_|refine Bz rfl ?_|refine Lr ?_);conv=>whnf))
          refine ⟨n - 1, t + 1, ?_, by omega, by omega, by omega, h3', ?_⟩
          · rw [wrapI (by omega), show (t + 1).toNat = t.toNat + 1 by omega]
            rfl
          · rw [show (t + 1).toNat = t.toNat + 1 by omega]
            intro k hk ha
            by_cases e : k < t.toNat
            · exact h4 k e ha
            · rw [show k = t.toNat by omega]
              exact ⟨by omega, by omega⟩
  · have ht := of_decide_eq_false g
    ((conv=>whnf);repeat((first|refine Ct ‹_› ?_|refine Cf ‹_› ?_|refine Ct rfl ?_|refine Cf rfl ?_|refine Bi rfl ?_|refine Bz rfl ?_|refine Lr ?_);conv=>whnf))
    have e4 : s.un.all (okUnt b) = true := all_of_lt Unt.d fun k hk => h3 k (by omega)
    have e5 : stk b.r.stack s.un := (stk_pre hst fun k hk => (UnOk.of h (h3 k (by omega))).side).2 (by rw [show s.un.length = t.toNat by omega]; exact h4)
    rw [okSt, e1, e2, e3, e4, decide_eq_true e5]
    exact ⟨rfl, rfl, rfl⟩

theorem F_fits (b : Brd) (ho : b.Ok) (s : Stt) (hs : s.Ok) : Fun E0 32 [.agg b.cs, .agg s.cs] [] (.v (vB (okBrd b && okSt b s))) [] [] := by
  refine Fun_of_xc k32 rfl rfl (fun k q h => by cases h) ?_
  ((conv=>whnf);repeat((first|refine Ct ‹_› ?_|refine Cf ‹_› ?_|refine Ct rfl ?_|refine Cf rfl ?_|refine Bi rfl ?_|refine Bz rfl ?_|refine Lr ?_);conv=>whnf))
  (refine CallQ_some (F_IsBoard b ho) ?_ ?_ ?_; rfl; rfl); ((conv=>whnf);repeat((first|refine Ct ‹_› ?_|refine Cf ‹_› ?_|refine Ct rfl ?_|refine Cf rfl ?_|refine Bi rfl ?_|refine Bz rfl ?_|refine Lr ?_);conv=>whnf))
  refine Cnd_i (fun g => ?_) (fun g => ?_)
  · ((conv=>whnf);repeat((first|refine Ct ‹_› ?_|refine Cf ‹_› ?_|refine Ct rfl ?_|refine Cf rfl ?_|refine Bi rfl ?_|refine Bz rfl ?_|refine Lr ?_);conv=>whnf))
    (refine CallQ_some (F_goodState b (GB.of ho g) s hs) ?_ ?_ ?_; rfl; rfl); ((conv=>whnf);repeat((first|refine Ct ‹_› ?_|refine Cf ‹_› ?_|refine Ct rfl ?_|refine Cf rfl ?_|refine Bi rfl ?_|refine Bz rfl ?_|refine Lr ?_);conv=>whnf))
    rw [g]
    exact ⟨rfl, rfl, rfl⟩
  · ((conv=>whnf);repeat((first|refine Ct ‹_› ?_|refine Cf ‹_› ?_|refine Ct rfl ?_|refine Cf rfl ?_|refine Bi rfl ?_|refine Bz rfl ?_|refine Lr ?_);conv=>whnf))
    rw [g]
    exact ⟨rfl, rfl, rfl⟩

structure StOk (b : Brd) (s : Stt) : Prop where
  gb : GB b
  turn : 0 ≤ s.turn ∧ s.turn ≤ b.r.turns
  wea : 0 ≤ s.wea ∧ s.wea ≤ 2
  len : s.un.length ≤ 12
  un : ∀ u ∈ s.un, UnOk b u
  stk : stk b.r.stack s.un

theorem StOk.of {b : Brd} {s : Stt} (ho : b.Ok) (h : (okBrd b && okSt b s) = true) : StOk b s := by
  simp only [okSt, Bool.and_eq_true] at h
  obtain ⟨h0, ⟨⟨⟨h1, h2⟩, h3⟩, h4⟩, h5⟩ := h
  have g := GB.of ho h0
  exact ⟨g, of_decide_eq_true h1, of_decide_eq_true h2, of_decide_eq_true h3, fun u hu => UnOk.of g (List.all_eq_true.1 h4 u hu), of_decide_eq_true h5⟩

theorem StOk.side {b : Brd} {s : Stt} (h : StOk b s) {k : Nat} (hk : k < s.un.length) : (s.un.getD k Unt.d).side = 0 ∨ (s.un.getD k Unt.d).side = 1 := by
  refine (h.un _ ?_).side
  have := getD_memT (l := s.un) (d := Unt.d) (i := (k : Int)) (by omega) (by omega)
  rwa [Int.toNat_natCast] at this

theorem ownR_spec (i : Int) (us : List Unt) : ((∀ k, k < us.length → (us.getD k Unt.d).at' ≠ i) ∧ ownR i us = -1) ∨ ∃ k, k < us.length ∧ (us.getD k Unt.d).at' = i ∧ (us.getD k Unt.d).side = ownR i us := by
  induction us with
  | nil => exact .inl ⟨fun k hk => by simp at hk, rfl⟩
  | cons u l ih =>
    by_cases e : u.at' = i
    · exact .inr ⟨0, by simp, by simpa using e, by rw [ownR, if_pos (by simpa using e)]; simp⟩
    · rw [ownR, if_neg (by simpa using e)]
      rcases ih with ⟨h1, h2⟩ | ⟨k, h1, h2, h3⟩
      · refine .inl ⟨fun k hk => ?_, h2⟩
        cases k with
        | zero => simpa using e
        | succ k => simpa using h1 k (by simpa using hk)
      · exact .inr ⟨k + 1, by simpa using h1, by simpa using h2, by simpa using h3⟩

theorem StOk.own {b : Brd} {s : Stt} (h : StOk b s) (i : Int) : ownR i s.un = -1 ∨ ownR i s.un = 0 ∨ ownR i s.un = 1 := by
  rcases ownR_spec i s.un with ⟨_, e⟩ | ⟨k, h1, _, h3⟩
  · exact .inl e
  · have := h.side h1
    omega

/-- y is the best of the first t places: none if -1 -/
def bestI (L : List Int) (D : List Bool) (y t : Int) : Prop :=
  (y = -1 ∧ ∀ j : Nat, (j : Int) < t → D.getD j false = false → L.getD j 0 < 0) ∨
  (0 ≤ y ∧ y < t ∧ D.getD y.toNat false = false ∧ 0 ≤ L.getD y.toNat 0 ∧ ∀ j : Nat, (j : Int) < t → D.getD j false = false → 0 ≤ L.getD j 0 → L.getD y.toNat 0 ≤ L.getD j 0)

theorem bestI.take {L : List Int} {D : List Bool} {y t : Int} (h : bestI L D y t) (h0 : 0 ≤ t) (h1 : D.getD t.toNat false = false) (h2 : L.getD t.toNat 0 ≥ 0) (h3 : y < 0 ∨ L.getD t.toNat 0 < L.getD y.toNat 0) : bestI L D t (t + 1) := by
  refine .inr ⟨h0, by omega, h1, h2, fun j hj hD hp => ?_⟩
  by_cases e : (j : Int) = t
  · rw [show t.toNat = j by omega]; exact Int.le_refl _
  · rcases h with h | ⟨a, _, _, _, c⟩
    · have := h.2 j (by omega) hD; omega
    · have := c j (by omega) hD hp
      omega

structure HxB (q r : Int) : Prop where
  q : 0 ≤ q ∧ q ≤ 9
  r : 0 ≤ r ∧ r ≤ 9

structure PtB (q r n : Int) : Prop where
  n : 1 ≤ n ∧ n ≤ 18
  q : 0 ≤ q ∧ q ≤ 1000
  r : 0 ≤ r ∧ r ≤ 1000

/-! ### a place to meet -/
def betM (L L' : List Int) (x y : Int) : Prop := max (L.getD x.toNat 0) (L'.getD x.toNat 0) < max (L.getD y.toNat 0) (L'.getD y.toNat 0) ∨ (max (L.getD x.toNat 0) (L'.getD x.toNat 0) = max (L.getD y.toNat 0) (L'.getD y.toNat 0) ∧ L.getD x.toNat 0 + L'.getD x.toNat 0 < L.getD y.toNat 0 + L'.getD y.toNat 0)

instance (L L' : List Int) (x y : Int) : Decidable (betM L L' x y) := by unfold betM; infer_instance

def okKi (b : Brd) (k i : Int) : Bool := okBrd b && In k 0 (b.r.knd.length - 1) && In i 0 (b.m.w * b.m.h - 1)

structure KiOk (b : Brd) (k i : Int) : Prop where
  gb : GB b
  k : 0 ≤ k ∧ k < b.r.knd.length
  i : 0 ≤ i ∧ i < b.m.ter.length

theorem KiOk.of {b : Brd} (ho : b.Ok) {k i : Int} (h : okKi b k i = true) : KiOk b k i := by
  simp only [okKi, Bool.and_eq_true] at h
  have g := GB.of ho h.1.1
  have a2 := of_decide_eq_true h.1.2
  have a3 := of_decide_eq_true h.2
  have := g.n
  exact ⟨g, by omega, by omega⟩

def okKd (b : Brd) (k : Int) : Bool := okBrd b && In k 0 (b.r.knd.length - 1)

structure KdOk (b : Brd) (k : Int) : Prop where
  gb : GB b
  k : 0 ≤ k ∧ k < b.r.knd.length

theorem KdOk.of {b : Brd} (ho : b.Ok) {k : Int} (h : okKd b k = true) : KdOk b k := by
  simp only [okKd, Bool.and_eq_true] at h
  have a2 := of_decide_eq_true h.2
  exact ⟨GB.of ho h.1, by omega⟩

structure SpD (N : Nat) (g : Int → Int → Prop) (op : Int → Bool) (S : Int → Prop) (a : Int) (L B : List Int) (n : Int) : Prop where
  hL : DstS N g op S L
  hB : DstS N g op (fun k => k = a) B
  sym : ∀ j k, g j k → g k j
  gb : ∀ j k, g j k → (0 ≤ j ∧ j < N)
  so : ∀ k, S k → op k = true
  sb : ∀ k, S k → 0 ≤ k ∧ k < N
  ab : 0 ≤ a ∧ a < N
  n0 : 0 ≤ n
  hn : L.getD a.toNat 0 = n
namespace SpD

variable {N : Nat} {g : Int → Int → Prop} {op : Int → Bool} {S : Int → Prop} {a n : Int} {L B : List Int}

end SpD

def dgT (n : Int) : ByteArray := ⟨(Lib.decDigits n.toNat).toArray⟩

theorem dgT_1 {n : Int} (h0 : 0 ≤ n) (h1 : n < 10) : dgT n = ⟨#[UInt8.ofNat (48 + n.toNat)]⟩ := by
  unfold dgT
  rw [Lib.decDigits, dif_pos (by omega)]

theorem dgT_2 {n : Int} (h0 : 10 ≤ n) : dgT n = dgT (n / 10) ++ ⟨#[UInt8.ofNat (48 + (n % 10).toNat)]⟩ := by
  unfold dgT
  rw [Lib.decDigits, dif_neg (by omega), show n.toNat / 10 = (n / 10).toNat by omega, show n.toNat % 10 = (n % 10).toNat by omega]
  apply ByteArray.ext
  simp

theorem u8_dg {n : Int} (h0 : 0 ≤ n) (h1 : n < 10) : IntKind.u8.wrap (48 + n) = ((UInt8.ofNat (48 + n.toNat)).toNat : Int) := by
  rw [UInt8.toNat_ofNat']
  unfold IntKind.wrap
  simp [IntKind.bits, IntKind.signed]
  omega

theorem F_l1Num1 (n : Int) (h0 : 0 ≤ n) (h1 : n < 10) : Fun E0 62 [vI n] [] (.v (vS (dgT n))) [] [] := by
  rw [dgT_1 h0 h1]
  refine Fun_of_xc k62 rfl rfl (fun k q h => by cases h) ?_
  ((conv=>whnf);repeat((first|refine Ct ‹_› ?_|refine Cf ‹_› ?_|refine Ct rfl ?_|refine Cf rfl ?_|refine Bi rfl ?_|refine Bz rfl ?_|refine Lr ?_);conv=>whnf))
  refine Cnd_t (decide_eq_true h1) ?_
  ((conv=>whnf);repeat((first|refine Ct ‹_› ?_|refine Cf ‹_› ?_|refine Ct rfl ?_|refine Cf rfl ?_|refine Bi rfl ?_|refine Bz rfl ?_|refine Lr ?_);conv=>whnf))
  refine Rw_self ?_
  ((conv=>whnf);repeat((first|refine Ct ‹_› ?_|refine Cf ‹_› ?_|refine Ct rfl ?_|refine Cf rfl ?_|refine Bi rfl ?_|refine Bz rfl ?_|refine Lr ?_);conv=>whnf))
  refine Bts_i [UInt8.ofNat (48 + n.toNat)] (by simp) rfl (fun i b hb => ?_) ?_
  · have hi : i = 0 := by have := (List.getElem?_eq_some_iff.1 hb).1; simpa using this
    subst hi
    have hb : UInt8.ofNat (48 + n.toNat) = b := by simpa using hb
    show Cell.int .u8 (IntKind.u8.wrap (IntKind.i64.wrap (48 + n))) = _
    rw [← hb, wrapI (by omega)]
    have e : IntKind.u8.wrap (48 + n) = ((UInt8.ofNat (48 + n.toNat)).toNat : Int) := by
      rw [UInt8.toNat_ofNat']
      unfold IntKind.wrap
      simp [IntKind.bits, IntKind.signed]
      omega
    rw [e]
  ((conv=>whnf);repeat((first|refine Ct ‹_› ?_|refine Cf ‹_› ?_|refine Ct rfl ?_|refine Cf rfl ?_|refine Bi rfl ?_|refine Bz rfl ?_|refine Lr ?_);conv=>whnf))
  exact ⟨rfl, rfl, rfl⟩

theorem F_l1Num2 (n : Int) (h0 : 10 ≤ n) (h1 : n < 100) : Fun E0 62 [vI n] [] (.v (vS (dgT n))) [] [] := by
  rw [dgT_2 h0]
  refine Fun_of_xc k62 rfl rfl (fun k q h => by cases h) ?_
  ((conv=>whnf);repeat((first|refine Ct ‹_› ?_|refine Cf ‹_› ?_|refine Ct rfl ?_|refine Cf rfl ?_|refine Bi rfl ?_|refine Bz rfl ?_|refine Lr ?_);conv=>whnf))
  refine Cnd_f (decide_eq_false (by omega)) ?_
  ((conv=>whnf);repeat((first|refine Ct ‹_› ?_|refine Cf ‹_› ?_|refine Ct rfl ?_|refine Cf rfl ?_|refine Bi rfl ?_|refine Bz rfl ?_|refine Lr ?_);conv=>whnf))
  refine CallQ_eq (show _ = [vI (n / 10)] by rw [Int.tdiv_eq_ediv_of_nonneg (by omega), wrapI (by omega)]) ?_
  (refine CallQ_some (F_l1Num1 (n / 10) (by omega) (by omega)) ?_ ?_ ?_; rfl; rfl); ((conv=>whnf);repeat((first|refine Ct ‹_› ?_|refine Cf ‹_› ?_|refine Ct rfl ?_|refine Cf rfl ?_|refine Bi rfl ?_|refine Bz rfl ?_|refine Lr ?_);conv=>whnf))
  refine Rw_self ?_
  ((conv=>whnf);repeat((first|refine Ct ‹_› ?_|refine Cf ‹_› ?_|refine Ct rfl ?_|refine Cf rfl ?_|refine Bi rfl ?_|refine Bz rfl ?_|refine Lr ?_);conv=>whnf))
  refine Bts_i [UInt8.ofNat (48 + (n % 10).toNat)] (by simp) rfl (fun i b hb => ?_) ?_
  · have hi : i = 0 := by have := (List.getElem?_eq_some_iff.1 hb).1; simpa using this
    subst hi
    have hb : UInt8.ofNat (48 + (n % 10).toNat) = b := by simpa using hb
    show Cell.int .u8 (IntKind.u8.wrap (IntKind.i64.wrap (48 + n.tmod 10))) = _
    rw [Int.tmod_eq_emod_of_nonneg (by omega)]
    rw [← hb, wrapI (by omega), u8_dg (by omega) (by omega)]
  ((conv=>whnf);repeat((first|refine Ct ‹_› ?_|refine Cf ‹_› ?_|refine Ct rfl ?_|refine Cf rfl ?_|refine Bi rfl ?_|refine Bz rfl ?_|refine Lr ?_);conv=>whnf))
  refine Bnd_i ?_ ?_
  · rw [dgT_1 (show 0 ≤ n / 10 by omega) (by omega)]
    show 1 + 1 < 4611686018427387904
    omega
  ((conv=>whnf);repeat((first|refine Ct ‹_› ?_|refine Cf ‹_› ?_|refine Ct rfl ?_|refine Cf rfl ?_|refine Bi rfl ?_|refine Bz rfl ?_|refine Lr ?_);conv=>whnf))
  exact ⟨rfl, rfl, rfl⟩

theorem F_Itoa (n : Int) (h0 : 0 ≤ n) (h1 : n < 100) : Fun E0 69 [vI n] [] (.v (vS (dgT n))) [] [] := by
  refine Fun_intStr (by kernel_rfl) (fun w => ?_)
  have h := Any.strconv_Itoa_small Tryz.lays171 n.toNat (by omega) w
  rw [show ((n.toNat : Nat) : Int) = n by omega] at h
  exact h

theorem F_Join (xs : List ByteArray) (sep : ByteArray) (h0 : 0 < xs.length) (hN : xs.length ≤ 140737488355328) (hl : (Lib.join (xs.map (·.data.toList)) sep.data.toList).length ≤ 281474976710656) :
    Fun E0 103 [.one (.ro 1 xs.length fun i _ => .str (xs.getD i ⟨#[]⟩)), vS sep] [] (.v (vS ⟨(Lib.join (xs.map (·.data.toList)) sep.data.toList).toArray⟩)) [] [] :=
  Fun_join (by kernel_rfl) h0 (fun bk o c w h1 h2 h3 => Any.strings_Join_48 Tryz.lays156 Tryz.ex156 bk o c xs sep w h1 h2 hN h3 hl)

theorem F_l1Num (n : Int) (h0 : 0 ≤ n) (h1 : n < 100) : Fun E0 62 [vI n] [] (.v (vS (dgT n))) [] [] := by
  by_cases h : n < 10
  · exact F_l1Num1 n h0 h
  · exact F_l1Num2 n (by omega) h1

theorem dgT_size {n : Int} (h0 : 0 ≤ n) (h1 : n < 100) : (dgT n).size ≤ 2 := by
  by_cases h : n < 10
  · rw [dgT_1 h0 h]; show 1 ≤ 2; omega
  · rw [dgT_2 (by omega), dgT_1 (by omega) (by omega)]
    rw [ByteArray.size_append]
    show 1 + 1 ≤ 2
    omega

def atT (n : Int) : ByteArray := if n < 0 then ⟨#[45]⟩ else dgT n

theorem atT_size {n : Int} (h1 : n < 100) : (atT n).size ≤ 2 := by
  unfold atT
  by_cases h : n < 0
  · rw [if_pos h]; show 1 ≤ 2; omega
  · rw [if_neg h]; exact dgT_size (by omega) h1

theorem F_placeText (n : Int) (h : n < 100) : Fun E0 70 [vI n] [] (.v (vS (atT n))) [] [] := by
  refine Fun_of_xc k70 rfl rfl (fun k q h => by cases h) ?_
  ((conv=>whnf);repeat((first|refine Ct ‹_› ?_|refine Cf ‹_› ?_|refine Ct rfl ?_|refine Cf rfl ?_|refine Bi rfl ?_|refine Bz rfl ?_|refine Lr ?_);conv=>whnf))
  refine Cnd_i (fun g => ?_) (fun g => ?_)
  · have d := of_decide_eq_true g
    ((conv=>whnf);repeat((first|refine Ct ‹_› ?_|refine Cf ‹_› ?_|refine Ct rfl ?_|refine Cf rfl ?_|refine Bi rfl ?_|refine Bz rfl ?_|refine Lr ?_);conv=>whnf))
    rw [atT, if_pos d]
    exact ⟨rfl, rfl, rfl⟩
  · have d := of_decide_eq_false g
    ((conv=>whnf);repeat((first|refine Ct ‹_› ?_|refine Cf ‹_› ?_|refine Ct rfl ?_|refine Cf rfl ?_|refine Bi rfl ?_|refine Bz rfl ?_|refine Lr ?_);conv=>whnf))
    (refine CallQ_some (F_Itoa n (by omega) h) ?_ ?_ ?_; rfl; rfl); ((conv=>whnf);repeat((first|refine Ct ‹_› ?_|refine Cf ‹_› ?_|refine Ct rfl ?_|refine Cf rfl ?_|refine Bi rfl ?_|refine Bz rfl ?_|refine Lr ?_);conv=>whnf))
    rw [atT, if_neg d]
    exact ⟨rfl, rfl, rfl⟩

abbrev rwS (l : List ByteArray) : Row := ⟨false, 1, l.length, fun i _ => .str (l.getD i ⟨#[]⟩)⟩

theorem rwS_app (l : List ByteArray) (x : ByteArray) (g : Nat → Nat → Cell) (h : g 0 0 = .str x) : RowEq (appRow (rwS l) 1 g) (rwS (l ++ [x])) := by
  refine ⟨rfl, rfl, by simp [appRow], fun i j hi hj => ?_⟩
  have hj : j < 1 := hj
  obtain rfl : j = 0 := by omega
  have hi : i < l.length + 1 := hi
  show (bif Nat.blt i l.length then Cell.str (l.getD i ⟨#[]⟩) else g (i - l.length) 0) = Cell.str ((l ++ [x]).getD i ⟨#[]⟩)
  by_cases e : i < l.length
  · have : Nat.blt i l.length = true := by simpa [Nat.blt_eq] using e
    rw [this]
    simp [List.getElem?_append, e]
  · have : Nat.blt i l.length = false := by
      rw [Bool.eq_false_iff]; intro h; exact e (by simpa [Nat.blt_eq] using h)
    rw [this, show i = l.length by omega]
    simp [h]

def wdT (w : ByteArray) (n : Int) : ByteArray := w ++ ⟨#[32]⟩ ++ dgT n

theorem join2 (a b c : ByteArray) : (⟨(Lib.join ([a, b].map (·.data.toList)) c.data.toList).toArray⟩ : ByteArray) = a ++ c ++ b := by
  apply ByteArray.ext
  simp [Lib.join]

theorem F_wordsText (w : ByteArray) (n : Int) (hw : w.size ≤ 100) (h0 : 0 ≤ n) (h1 : n < 100) : Fun E0 68 [vS w, .one (.ro 1 1 fun _ _ => cI n)] [] (.v (vS (wdT w n))) [] [] := by
  refine Fun_of_xc k68 rfl rfl (fun k q h => by cases h) ?_
  ((conv=>whnf);repeat((first|refine Ct ‹_› ?_|refine Cf ‹_› ?_|refine Ct rfl ?_|refine Cf rfl ?_|refine Bi rfl ?_|refine Bz rfl ?_|refine Lr ?_);conv=>whnf))
  refine Rw_i (rwS [w]) ⟨rfl, rfl, rfl, fun i j hi hj => ?_⟩ ?_
  · have hi : i < 1 := hi
    have hj : j < 1 := hj
    obtain rfl : i = 0 := by omega
    obtain rfl : j = 0 := by omega
    rfl
  ((conv=>whnf);repeat((first|refine Ct ‹_› ?_|refine Cf ‹_› ?_|refine Ct rfl ?_|refine Cf rfl ?_|refine Bi rfl ?_|refine Bz rfl ?_|refine Lr ?_);conv=>whnf))
  refine WLoop_v2 ⟨[5, 10, 11, 12], [], []⟩ (fun (t : Int) (out : List ByteArray) => hdS 24 [(5, .v (.one (.own (vkey 5) out.length))), (10, .v (.one (.ro 1 1 fun _ _ => cI n))), (11, .v (vI 1)), (12, .v (vI t))] [] [(vkey 5, rwS out)])
    (fun m t out => 0 ≤ t ∧ t + m = 1 ∧ out = if t = 0 then [w] else [w, dgT n]) 1 0 [w] rfl ⟨by omega, by omega, rfl⟩ ?_
  rintro m t out ⟨a1, a2, a3⟩
  ((conv=>whnf);repeat((first|refine Ct ‹_› ?_|refine Cf ‹_› ?_|refine Ct rfl ?_|refine Cf rfl ?_|refine Bi rfl ?_|refine Bz rfl ?_|refine Lr ?_);conv=>whnf))
  refine Cnd_i (fun g => ?_) (fun g => ?_)
  · have ht := of_decide_eq_true g
    obtain rfl : t = 0 := by omega
    obtain rfl : out = [w] := a3
    ((conv=>whnf);repeat((first|refine Ct ‹_› ?_|refine Cf ‹_› ?_|refine Ct rfl ?_|refine Cf rfl ?_|refine Bi rfl ?_|refine Bz rfl ?_|refine Lr ?_);conv=>whnf))
    refine Bnd_i (⟨a1, ht⟩) ?_; ((conv=>whnf);repeat((first|refine Ct ‹_› ?_|refine Cf ‹_› ?_|refine Ct rfl ?_|refine Cf rfl ?_|refine Bi rfl ?_|refine Bz rfl ?_|refine Lr ?_);conv=>whnf))
    (refine CallQ_some (F_Itoa n h0 h1) ?_ ?_ ?_; rfl; rfl); ((conv=>whnf);repeat((first|refine Ct ‹_› ?_|refine Cf ‹_› ?_|refine Ct rfl ?_|refine Cf rfl ?_|refine Bi rfl ?_|refine Bz rfl ?_|refine Lr ?_);conv=>whnf))
    refine Rw_self ?_
    ((conv=>whnf);repeat((first|refine Ct ‹_› ?_|refine Cf ‹_› ?_|refine Ct rfl ?_|refine Cf rfl ?_|refine Bi rfl ?_|refine Bz rfl ?_|refine Lr ?_);conv=>whnf))
    refine Bnd_i (by show 1 + 1 < _; omega) ?_
    ((conv=>whnf);repeat((first|refine Ct ‹_› ?_|refine Cf ‹_› ?_|refine Ct rfl ?_|refine Cf rfl ?_|refine Bi rfl ?_|refine Bz rfl ?_|refine Lr ?_);conv=>whnf))
    refine Rw_i (rwS ([w] ++ [dgT n])) (rwS_app _ _ _ rfl) ?_
    ((conv=>whnf);repeat((first|refine Ct ‹_› ?_|refine Cf ‹_› ?_|refine Ct rfl ?_|refine Cf rfl ?_|refine Bi rfl ?_|refine Bz rfl ?_|refine Lr ?_);conv=>whnf))
    refine ⟨m - 1, 1, [w, dgT n], ?_, by omega, by omega, by omega, rfl⟩
    rfl
  · have ht := of_decide_eq_false g
    obtain rfl : t = 1 := by omega
    obtain rfl : out = [w, dgT n] := a3
    ((conv=>whnf);repeat((first|refine Ct ‹_› ?_|refine Cf ‹_› ?_|refine Ct rfl ?_|refine Cf rfl ?_|refine Bi rfl ?_|refine Bz rfl ?_|refine Lr ?_);conv=>whnf))
    have hd := dgT_size h0 h1
    (refine CallQ_some (F_Join [w, dgT n] ⟨#[32]⟩ (by show 0 < 2; omega) (by show 2 ≤ _; omega) (by rw [show (Lib.join ([w, dgT n].map (·.data.toList)) (ByteArray.mk #[32]).data.toList) = (w ++ ⟨#[32]⟩ ++ dgT n).data.toList by rw [← join2], Array.length_toList]; show (w ++ ⟨#[32]⟩ ++ dgT n).size ≤ _; rw [ByteArray.size_append, ByteArray.size_append]; show w.size + 1 + _ ≤ _; omega)) ?_ ?_ ?_; rfl; rfl); ((conv=>whnf);repeat((first|refine Ct ‹_› ?_|refine Cf ‹_› ?_|refine Ct rfl ?_|refine Cf rfl ?_|refine Bi rfl ?_|refine Bz rfl ?_|refine Lr ?_);conv=>whnf))
    rw [join2]
    exact ⟨rfl, rfl, rfl⟩

abbrev sp1 : ByteArray := ⟨#[32]⟩

abbrev nl1 : ByteArray := ⟨#[10]⟩

def uT (b : Brd) (u : Unt) : ByteArray := dgT u.side ++ sp1 ++ (b.r.knd.getD u.kind.toNat Knd.d).name ++ sp1 ++ atT u.at' ++ sp1 ++ dgT u.ste ++ nl1

def hT (s : Stt) : ByteArray := ⟨#[116, 117, 114, 110, 32]⟩ ++ dgT s.turn ++ ⟨#[32, 119, 101, 97, 116, 104, 101, 114, 32]⟩ ++ dgT s.wea ++ nl1

def usT (b : Brd) : ByteArray → List Unt → ByteArray
  | o, [] => o
  | o, u :: us => usT b (o ++ uT b u) us

def stT (b : Brd) (s : Stt) : ByteArray := usT b (hT s) s.un

theorem usT_app (b : Brd) (u : Unt) : ∀ (us : List Unt) (o : ByteArray), usT b o (us ++ [u]) = usT b o us ++ uT b u
  | [], _ => rfl
  | _ :: us, o => usT_app b u us _

theorem usT_take (b : Brd) (o : ByteArray) (us : List Unt) (t : Nat) (ht : t < us.length) : usT b o (us.take (t + 1)) = usT b o (us.take t) ++ uT b (us.getD t Unt.d) := by
  rw [List.take_succ_eq_append_getElem ht, usT_app]
  congr 2
  rw [List.getD_eq_getElem?_getD, List.getElem?_eq_getElem ht]
  rfl

theorem okName_size {s : ByteArray} (h : okName s = true) : s.size ≤ 8 := by
  rw [okName, Bool.and_eq_true] at h
  have := of_decide_eq_true h.2
  omega

theorem knd_name {b : Brd} (h : GB b) {k : Int} (h0 : 0 ≤ k) (h1 : k < b.r.knd.length) : (b.r.knd.getD k.toNat Knd.d).name.size ≤ 8 ∧ (b.r.knd.getD k.toNat Knd.d).ste ≤ 4 := by
  have hm := h.knd _ (getD_memT (d := Knd.d) h0 h1)
  simp only [okKnd, Bool.and_eq_true] at hm
  obtain ⟨⟨⟨⟨a1, a2⟩, a3⟩, a4⟩, a5⟩ := hm
  exact ⟨okName_size a1, (of_decide_eq_true a4).2⟩

structure UnS (b : Brd) (u : Unt) : Prop where
  side : 0 ≤ u.side ∧ u.side < 100
  kind : 0 ≤ u.kind ∧ u.kind < b.r.knd.length
  ste : 0 ≤ u.ste ∧ u.ste < 100
  at' : u.at' < 100
  at1 : -1 ≤ u.at'
  nam : (b.r.knd.getD u.kind.toNat Knd.d).name.size ≤ 8

theorem UnS.of {b : Brd} (h : GB b) {u : Unt} (hu : UnOk b u) : UnS b u := by
  have h1 := hu.side
  have h2 := hu.kind
  have h3 := hu.ste
  have h4 := hu.at'
  have h5 := knd_name h h2.1 h2.2
  have h6 := h.n
  have h7 := h.wh.mul
  exact ⟨by omega, h2, by omega, by omega, by omega, h5.1⟩

theorem szA {a b : ByteArray} {m n : Nat} (ha : a.size ≤ m) (hb : b.size ≤ n) : (a ++ b).size ≤ m + n := by
  rw [ByteArray.size_append]; omega

theorem bss {a b : ByteArray} {m n : Nat} (ha : a.size ≤ m) (hb : b.size ≤ n) (h : Nat.blt (m + n) 4611686018427387904 = true) : a.size + b.size < 4611686018427387904 := by
  have h : m + n < 4611686018427387904 := by simpa [Nat.blt_eq] using h
  omega

theorem uT_size {b : Brd} {u : Unt} (h : UnS b u) : (uT b u).size ≤ 20 := by
  have h1 := dgT_size h.side.1 h.side.2
  have h2 := dgT_size h.ste.1 h.ste.2
  have h3 := atT_size h.at'
  have h4 := h.nam
  unfold uT
  simp only [ByteArray.size_append]
  show _ + 1 + _ + 1 + _ + 1 + _ + 1 ≤ 20
  omega

theorem hT_size {s : Stt} (h1 : 0 ≤ s.turn) (h2 : s.turn < 100) (h3 : 0 ≤ s.wea) (h4 : s.wea < 100) : (hT s).size ≤ 20 := by
  have a1 := dgT_size h1 h2
  have a2 := dgT_size h3 h4
  unfold hT
  simp only [ByteArray.size_append]
  show 5 + _ + 9 + _ + 1 ≤ 20
  omega

theorem wdT_size {w : ByteArray} {n : Int} {a d : Nat} (hw : w.size ≤ a) (hd : (dgT n).size ≤ d) : (wdT w n).size ≤ a + 1 + d := szA (szA hw (Nat.le_refl _)) hd

theorem hT_of (s : Stt) : wdT ⟨#[116, 117, 114, 110]⟩ s.turn ++ sp1 ++ wdT ⟨#[119, 101, 97, 116, 104, 101, 114]⟩ s.wea ++ nl1 = hT s := by
  have e1 : (⟨#[116, 117, 114, 110, 32]⟩ : ByteArray) = ⟨#[116, 117, 114, 110]⟩ ++ ⟨#[32]⟩ := rfl
  have e2 : (⟨#[32, 119, 101, 97, 116, 104, 101, 114, 32]⟩ : ByteArray) = ⟨#[32]⟩ ++ (⟨#[119, 101, 97, 116, 104, 101, 114]⟩ ++ ⟨#[32]⟩) := rfl
  rw [wdT, wdT, hT, e1, e2]
  simp only [ByteArray.append_assoc]
end Go.Proofs.YthleikolhjdffaaGreatDoor.Ab
